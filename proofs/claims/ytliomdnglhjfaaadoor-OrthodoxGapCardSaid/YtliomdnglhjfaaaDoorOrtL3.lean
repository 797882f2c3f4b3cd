/- OrthodoxGap. -/
import Derived.Test.YtliomdnglhjfaaaDoorOrtL
import Derived.Test.YtliomdnglhjfaaaDoorLaidG
import Derived.Test.YtliomdnglhjfaaaDoorHead
set_option linter.unusedSimpArgs false
set_option linter.unusedVariables false
set_option linter.unusedSectionVars false
namespace Go.Proofs.YtliomdnglhjfaaaDoor
open Go.ChangeShapes Go.WideShapes Go.ChangeAt Go.RowKit
set_option maxHeartbeats 1000000
set_option maxRecDepth 20000

def gapOk (y : Int) : Bool := decide (0 ≤ esN 1 y - esN 2 y ∧ esN 1 y - esN 2 y ≤ 42)
def gapAll : Nat → Bool
  | 0 => true
  | k + 1 => gapOk (1583 + (k : Int)) && gapAll k
theorem gap_all : gapAll 817 = true := by decide +kernel
theorem gapAll_get (n : Nat) (h : gapAll n = true) (k : Nat) (hk : k < n) : gapOk (1583 + (k : Int)) = true := by
  induction n with
  | zero => omega
  | succ n ih =>
    unfold gapAll at h
    rw [Bool.and_eq_true] at h
    by_cases e : k = n
    · subst e; exact h.1
    · exact ih h.2 (by omega)
theorem gap_ok (y : Int) (h1 : 1583 ≤ y) (h2 : y ≤ 2399) : 0 ≤ esN 1 y - esN 2 y ∧ esN 1 y - esN 2 y ≤ 42 := by
  have := gapAll_get 817 gap_all (y - 1583).toNat (by omega)
  rw [show (1583 : Int) + (((y - 1583).toNat : Nat) : Int) = y by omega] at this
  exact of_decide_eq_true this
theorem OrthodoxGap_walk (y : Int) (by0 : -9223372036854775808 ≤ y ∧ y ≤ 9223372036854775807) (w : World) (hT : RTab w) :
    Calls Tryd.prog 15 #[.int .i64 y] w fun e w' => e = .returned (.bool true) ∧ Kept w w' := by
  have KT := Lib.hid (fun w' (k : Kept w w') => hT.kept k)
  have KG := Lib.hid (fun w hT => OGap_any y w hT)
  clear hT
  by_cases h : 1583 ≤ y ∧ y ≤ 1000000000
  · have hf : Fit 2 y := by unfold Fit; omega
    have hf1 : Fit 1 y := by unfold Fit; omega
    have h0 : flE 2 y = 0 := by
      rcases fl_cases 2 y with ⟨_, e⟩ | ⟨g, _⟩ | ⟨g, _⟩
      · exact e
      · unfold Off at g; omega
      · omega
    have hg : gpN y = esN 1 y - esN 2 y := if_pos h0
    rw [hg, h0] at KG
    have KI := Lib.hid (fun w => InG_yes y w h.1 h.2)
    have s1 := esN_sunday 1 y
    have s2 := esN_sunday 2 y
    have b1 := esN_bounds 1 y hf1
    have b2 := esN_bounds 2 y hf
    have hz := gap_ok y h.1
    have h7 : (esN 1 y - esN 2 y).tmod 7 = 0 := by
      rw [← Int.dvd_iff_tmod_eq_zero, Int.dvd_iff_emod_eq_zero]
      omega
    have h8 : ((esN 1 y - esN 2 y).tmod 7 == 0) = true := by simp [h7]
    have h9 : ((esN 1 y - esN 2 y).tmod 7 != 0) = false := by simp [h7]
    clear hf hf1 h0 hg s1 s2
    generalize esN 1 y - esN 2 y = n at *
    clear b1 b2
    by_cases hy : y ≤ 2399
    · obtain ⟨z1, z2⟩ := hz hy
      go_enter Tryd.func15, Tryd.ntmps15
      go_wp2_with fail
      (go_at_call 43; refine (Ort_awake _ (KT.out _ (by repeat (first | with_reducible exact Kept.refl _ | with_reducible assumption | with_reducible refine Kept.drew ?_ | with_reducible refine Kept.drewN ?_ _ | with_reducible refine Kept.alloc ?_ _ | (with_reducible refine Kept.setCell ?_ (by first | exact Nat.le_refl _ | omega | (simp; done) | (simp; omega)) _) | (with_reducible refine Kept.trans ?_ (by with_reducible assumption)))))).mono ?_; rintro e w1 ⟨rfl, hk1⟩)
      go_wp2_with fail
      (go_at_call 49; refine (KI.out _).mono ?_; rintro e w1 ⟨rfl, rfl⟩)
      go_wp2_with fail
      (go_at_call 48; refine (KG.out _ (KT.out _ (by repeat (first | with_reducible exact Kept.refl _ | with_reducible assumption | with_reducible refine Kept.drew ?_ | with_reducible refine Kept.drewN ?_ _ | with_reducible refine Kept.alloc ?_ _ | (with_reducible refine Kept.setCell ?_ (by first | exact Nat.le_refl _ | omega | (simp; done) | (simp; omega)) _) | (with_reducible refine Kept.trans ?_ (by with_reducible assumption)))))).mono ?_; rintro e w2 ⟨rfl, hk2⟩)
      go_wp2
      go_ret
      exact ⟨rfl, (by repeat (first | with_reducible exact Kept.refl _ | with_reducible assumption | with_reducible refine Kept.drew ?_ | with_reducible refine Kept.drewN ?_ _ | with_reducible refine Kept.alloc ?_ _ | (with_reducible refine Kept.setCell ?_ (by first | exact Nat.le_refl _ | omega | (simp; done) | (simp; omega)) _) | (with_reducible refine Kept.trans ?_ (by with_reducible assumption))))⟩
    · clear hz
      go_enter Tryd.func15, Tryd.ntmps15
      go_wp2_with fail
      (go_at_call 43; refine (Ort_awake _ (KT.out _ (by repeat (first | with_reducible exact Kept.refl _ | with_reducible assumption | with_reducible refine Kept.drew ?_ | with_reducible refine Kept.drewN ?_ _ | with_reducible refine Kept.alloc ?_ _ | (with_reducible refine Kept.setCell ?_ (by first | exact Nat.le_refl _ | omega | (simp; done) | (simp; omega)) _) | (with_reducible refine Kept.trans ?_ (by with_reducible assumption)))))).mono ?_; rintro e w1 ⟨rfl, hk1⟩)
      go_wp2_with fail
      (go_at_call 49; refine (KI.out _).mono ?_; rintro e w1 ⟨rfl, rfl⟩)
      go_wp2_with fail
      (go_at_call 48; refine (KG.out _ (KT.out _ (by repeat (first | with_reducible exact Kept.refl _ | with_reducible assumption | with_reducible refine Kept.drew ?_ | with_reducible refine Kept.drewN ?_ _ | with_reducible refine Kept.alloc ?_ _ | (with_reducible refine Kept.setCell ?_ (by first | exact Nat.le_refl _ | omega | (simp; done) | (simp; omega)) _) | (with_reducible refine Kept.trans ?_ (by with_reducible assumption)))))).mono ?_; rintro e w2 ⟨rfl, hk2⟩)
      go_wp2
      go_ret
      exact ⟨rfl, (by repeat (first | with_reducible exact Kept.refl _ | with_reducible assumption | with_reducible refine Kept.drew ?_ | with_reducible refine Kept.drewN ?_ _ | with_reducible refine Kept.alloc ?_ _ | (with_reducible refine Kept.setCell ?_ (by first | exact Nat.le_refl _ | omega | (simp; done) | (simp; omega)) _) | (with_reducible refine Kept.trans ?_ (by with_reducible assumption))))⟩
  · have KI := Lib.hid (fun w => InG_no y w (by omega))
    go_enter Tryd.func15, Tryd.ntmps15
    go_wp2_with fail
    (go_at_call 43; refine (Ort_awake _ (KT.out _ (by repeat (first | with_reducible exact Kept.refl _ | with_reducible assumption | with_reducible refine Kept.drew ?_ | with_reducible refine Kept.drewN ?_ _ | with_reducible refine Kept.alloc ?_ _ | (with_reducible refine Kept.setCell ?_ (by first | exact Nat.le_refl _ | omega | (simp; done) | (simp; omega)) _) | (with_reducible refine Kept.trans ?_ (by with_reducible assumption)))))).mono ?_; rintro e w1 ⟨rfl, hk1⟩)
    go_wp2_with fail
    (go_at_call 49; refine (KI.out _).mono ?_; rintro e w1 ⟨rfl, rfl⟩)
    go_wp2_with fail
    (go_at_call 43; refine (Ort_awake _ (KT.out _ (by repeat (first | with_reducible exact Kept.refl _ | with_reducible assumption | with_reducible refine Kept.drew ?_ | with_reducible refine Kept.drewN ?_ _ | with_reducible refine Kept.alloc ?_ _ | (with_reducible refine Kept.setCell ?_ (by first | exact Nat.le_refl _ | omega | (simp; done) | (simp; omega)) _) | (with_reducible refine Kept.trans ?_ (by with_reducible assumption)))))).mono ?_; rintro e w2 ⟨rfl, hk2⟩)
    go_wp2
    go_ret
    exact ⟨rfl, (by repeat (first | with_reducible exact Kept.refl _ | with_reducible assumption | with_reducible refine Kept.drew ?_ | with_reducible refine Kept.drewN ?_ _ | with_reducible refine Kept.alloc ?_ _ | (with_reducible refine Kept.setCell ?_ (by first | exact Nat.le_refl _ | omega | (simp; done) | (simp; omega)) _) | (with_reducible refine Kept.trans ?_ (by with_reducible assumption))))⟩

set_option maxRecDepth 100000 in
theorem OrthodoxGap_contract (H : Type) (enc : TypeId × Value → H) (W : World) (base : Nat) (args : Array Value) (ds gs : List (DataW H)) (before : List MemPlace)
    (hval : ∀ (j : Nat) t v, Tryd.f15.params[j]? = some t → args[j]? = some v → Value.okWide Tryd.prog W .any base t v)
    (hW : DataW.Whole enc Tryd.prog Tryd.f15.params.toList Rows.orthodoxGapSpec.vars false W args.toList ds gs before) (hL : laidMetH Tryd.prog Rows.orthodoxGapRow.laid W) :
    Calls Tryd.prog 15 args W fun e W' => ∃ v, e = .returned v ∧ Rows.orthodoxGapSpec.post enc Tryd.prog Tryd.f15 false true false false W args v W' := by
  have hW' := hW
  obtain ⟨p, q, hA0, hV, rfl, hfz, hnd⟩ := hW
  have hA : DataW.TrodAll enc Tryd.prog W 0 (fun _ => true) true Tryd.f15.params.toList args.toList ds p := hA0
  rw [Tryd.params15] at hA hval
  obtain ⟨v0, vs0, d0, ds0, p0, q0, hargs, rfl, rfl, h0, r0⟩ := trodAll_cons hA
  obtain ⟨rfl, rfl, rfl⟩ := trodAll_nil r0
  obtain rfl : args = #[v0] := by cases args; simp_all
  obtain ⟨rfl, rfl⟩ := trodVars_none hV
  obtain ⟨a0, rfl, rfl, rfl, w0⟩ := open_int Tryd.underlying3 (hval 0 3 v0 rfl rfl) h0
  clear hA0
  simp only [List.append_nil] at hW'
  refine (OrthodoxGap_walk a0 (wf_bounds w0) W (tab_of hL)).mono fun e W' ⟨he, hg⟩ => ?_
  subst he
  exact ⟨_, rfl, post_of_kept (pa := []) (pv := []) hW' (fun _ _ _ => (trodAll_cons_mk (shut_bool Tryd.underlying4 _) trodAll_mk0)) (fun sp _ => (trodAll_cons_mk (shut_int Tryd.underlying3 w0) trodAll_mk0)) (fun _ _ => rfl) rfl
    hg (ok_one (by kernel_rfl) rfl (okWide_bool_mk Tryd.underlying4 _))⟩
theorem OrthodoxGap_laid (os : Os) : laidMet Tryd.prog Rows.orthodoxGapRow.laid ((laidWorld os).forCall (fun _ _ => 0) ⟨#[], #[.int .i64 0], []⟩).memory :=
  laidMet_of_run' 8 (by kernel_rfl) (by kernel_rfl)
theorem OrthodoxGap_reads (os : Os) {H : Type} (enc : TypeId × Value → H) : ∃ places, DataW.whole enc Tryd.prog ((laidWorld os).forCall (fun _ _ => 0) ⟨#[], #[.int .i64 0], []⟩).memory Tryd.f15.params.toList Rows.orthodoxGapSpec.vars false (#[.int .i64 0] : Array Value).toList 8 = some ([.lit (.int .i64 0)], [], places) :=
  ⟨[], by kernel_rfl⟩
set_option maxRecDepth 100000 in
theorem OrthodoxGap_lifted (os : Os) (started : os.Started) (H : Type) (enc : TypeId × Value → H) (F : Stop.Interp) :
    ReturnsInHanded {} Tryd.checked os 15 .any ((OpenSpec.ofChange Rows.orthodoxGapSpec).preRow enc Tryd.prog Tryd.f15 Rows.orthodoxGapRow.domain false Rows.orthodoxGapRow.laid) (((OpenSpec.ofChange Rows.orthodoxGapSpec).at F).post enc Tryd.prog Tryd.f15 false true false false) := by
  obtain ⟨places, hx⟩ := OrthodoxGap_reads os enc
  refine returnsInHanded_of_row (C := Tryd.checked) (s := OpenSpec.ofChange Rows.orthodoxGapSpec) own_knob started (by kernel_rfl) Tryd.func15
    (witness_row_at (enc := enc) (C := Tryd.checked) false (laidWorld os) #[.int .i64 0] rfl (by kernel_rfl) (by kernel_rfl) (by kernel_rfl)
      (OpenSpec.preRow_of_cond 8 hx (by kernel_rfl) (fun k hk => by cases hk) (by kernel_rfl) (OrthodoxGap_laid os))) ?_
  intro W base args ds gs before hval hW _ _ _ hL _ _
  exact OrthodoxGap_contract H enc W base args ds gs before hval hW hL
theorem OrthodoxGap_closed : joinedFacts Tryd.pinned.checked.prog 15 Tryd.f15 (OpenSpec.ofChange Rows.orthodoxGapSpec).bare Rows.orthodoxGapRow = true := by
  unfold joinedFacts
  simp only [Bool.and_eq_true]
  repeat' apply And.intro
  all_goals (first | with_reducible exact head_enter | (rw [head_make]; rfl) | (rw [head_final]; rfl) | (as_aux_lemma => kernel_rfl))
theorem OrthodoxGap_said : Rows.OrthodoxGapSaid :=
  OpenClaim.holds_of_cond 15 Tryd.f15 rfl rfl rfl rfl rfl rfl rfl ⟨rfl, rfl, rfl, rfl, rfl⟩ rfl rfl rfl rfl rfl (by kernel_rfl) Tryd.func15 OrthodoxGap_closed
    (of_decide_eq_true (by kernel_rfl)) (by unfold Func.isWrapper; first | (rw [if_pos (by decide +kernel)]; kernel_rfl) | (rw [if_neg (by decide +kernel)]; exact ⟨rfl, rfl⟩))
    (fun os started H enc _ F => by rw [OpenClaim.pre_eq_preRow]; exact OrthodoxGap_lifted os started H enc F)
theorem OrthodoxGap_plain (f : FuncId) (fn : Func) (hf : Tryd.pinned.checked.prog.funcNamed "computus/computuslaw13.OrthodoxGap" = some f) (hfn : Tryd.pinned.checked.prog.funcs[f]? = some fn) :
    false = Tryd.pinned.checked.prog.looks [] ∧ ∀ (j : Nat) t, fn.params[j]? = some t → Tryd.pinned.checked.prog.wantsStandIn t = false := by
  obtain rfl : f = 15 := Option.some.inj ((show Tryd.prog.funcNamed "computus/computuslaw13.OrthodoxGap" = some 15 by kernel_rfl).symm.trans hf) |>.symm
  obtain rfl : fn = Tryd.f15 := (Option.some.inj (Tryd.func15.symm.trans hfn)).symm
  refine ⟨by kernel_rfl, fun j t ht => ?_⟩
  rw [Tryd.params15] at ht
  have hm : t ∈ [3] := by simpa using Array.mem_of_getElem? ht
  have hall : ([3].all fun u => !Tryd.prog.wantsStandIn u) = true := by kernel_rfl
  exact (show Tryd.prog.wantsStandIn t = false by simpa using List.all_eq_true.1 hall t hm)
theorem OrthodoxGap_proved : Rows.OrthodoxGapCardSaid :=
  Claim7.holds_tied_plain_at .later [] _ _ _ _ OrthodoxGap_said (fun _ h => by cases h) (by kernel_rfl) (fun _ h => by cases h) orthodoxGap_row_tie rfl ⟨rfl, rfl⟩ (mainIs_of io_list (by kernel_rfl)) rfl OrthodoxGap_plain (by kernel_rfl)
#print axioms OrthodoxGap_proved
end Go.Proofs.YtliomdnglhjfaaaDoor

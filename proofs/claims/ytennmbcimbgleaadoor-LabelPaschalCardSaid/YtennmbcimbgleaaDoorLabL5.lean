/- LabelPaschal. -/
import Derived.Test.YtennmbcimbgleaaDoorLabAw
import Derived.Test.YtennmbcimbgleaaDoorLaid08
set_option linter.unusedSimpArgs false
set_option linter.unusedVariables false
set_option linter.unusedSectionVars false
namespace Go.Proofs.YtennmbcimbgleaaDoor
open Go.ChangeShapes Go.WideShapes Go.ChangeAt Go.RowKit
set_option maxHeartbeats 1000000

def cntB (m d0 l : Int) : Nat → Int
  | 0 => 0
  | k + 1 => cntB m d0 l k + if bears m (d0 + k) l then 1 else 0
theorem cntB_bounds (m d0 l : Int) (k : Nat) : 0 ≤ cntB m d0 l k ∧ cntB m d0 l k ≤ k := by
  induction k with
  | zero => simp [cntB]
  | succ k ih =>
    unfold cntB
    split <;> omega
theorem cnt_one : ∀ l : Fin 32, 1 ≤ l.val → cntB 3 8 (l.val : Int) 24 + cntB 4 1 (l.val : Int) 5 = 1 := by decide +kernel
theorem LabelPaschal_walk (n : Int) (_b : 0 ≤ n ∧ n ≤ 255) (w : World) (hT : LTab w) :
    Calls Tryd.prog 7 #[.int .u8 n] w fun e w' => e = .returned (.bool true) ∧ Kept w w' := by
  obtain ⟨c1, c2⟩ := _b
  have KT := Lib.hid (fun w' (k : Kept w w') => hT.kept k)
  have KW := Lib.hid (Lab_awake w hT)
  clear hT
  go_enter Tryd.func7, Tryd.ntmps7
  go_wp2_with (go_at_call 8; refine (KW.out).mono ?_; rintro e w1 ⟨rfl, hk1⟩)
  have KN := Lib.hid (cnt_one ⟨(1 + n % 31).toNat, by omega⟩ (by show 1 ≤ (1 + n % 31).toNat; omega))
  have hl : (((⟨(1 + n % 31).toNat, by omega⟩ : Fin 32).val : Nat) : Int) = 1 + n % 31 := by show (((1 + n % 31).toNat : Nat) : Int) = _; omega
  rw [hl] at KN
  clear hl
  generalize 1 + n % 31 = l at *
  have KC := Lib.hid (fun m d0 k => cntB_bounds m d0 l k)
  go_loopw [4, 5] (fun c d wr => ∃ k : Nat, k ≤ 24 ∧ d = .int .i64 (8 + k) ∧ c = .int .i64 (cntB 3 8 l k) ∧ Kept w wr) (fun _ d _ => (32 - intOf d).toNat)
  case atStart => exact ⟨0, by omega, rfl, rfl, hk1⟩
  case round =>
    obtain ⟨k, hk, rfl, rfl, hkw⟩ := hrel
    have hb := KC.out 3 8 k
    by_cases hlt : k < 24
    · have KX := Lib.hid (Bears_of 3 (8 + k) l wr (KT.out wr hkw))
      cases hbb : bears 3 (8 + k) l with
      | false =>
        rw [hbb] at KX
        go_wp2_with (go_at_call 14; refine (KX.out).mono ?_; rintro e w1 ⟨rfl, hk1⟩)
        go_roundw
        case rel => exact ⟨k + 1, by omega, by go_num, by simp [cntB, hbb], hkw.trans hk1⟩
        case measure => simp [intOf]; omega
      | true =>
        rw [hbb] at KX
        go_wp2_with (go_at_call 14; refine (KX.out).mono ?_; rintro e w1 ⟨rfl, hk1⟩)
        go_roundw
        case rel => exact ⟨k + 1, by omega, by go_num, by simp [cntB, hbb], hkw.trans hk1⟩
        case measure => simp [intOf]; omega
    · have HK : Hid (k = 24) := (show k = 24 by omega)
      go_wp2
      go_loopw [4, 6] (fun c d wr => ∃ j : Nat, j ≤ 5 ∧ d = .int .i64 (1 + j) ∧ c = .int .i64 (cntB 3 8 l k + cntB 4 1 l j) ∧ Kept w wr) (fun _ d _ => (32 - intOf d).toNat)
      case atStart => exact ⟨0, by omega, rfl, by simp [cntB], hkw⟩
      case round =>
        obtain ⟨j, hj, rfl, rfl, hkw2⟩ := hrel
        have hb2 := KC.out 4 1 j
        by_cases hlt2 : j < 5
        · have KX := Lib.hid (Bears_of 4 (1 + j) l _ (KT.out _ hkw2))
          cases hbb : bears 4 (1 + j) l with
          | false =>
            rw [hbb] at KX
            go_wp2_with (go_at_call 14; refine (KX.out).mono ?_; rintro e w1 ⟨rfl, hk1⟩)
            go_roundw
            case rel => exact ⟨j + 1, by omega, by go_num, by simp [cntB, hbb], hkw2.trans hk1⟩
            case measure => simp [intOf]; omega
          | true =>
            rw [hbb] at KX
            go_wp2_with (go_at_call 14; refine (KX.out).mono ?_; rintro e w1 ⟨rfl, hk1⟩)
            go_roundw
            case rel => exact ⟨j + 1, by omega, by go_num, by simp [cntB, hbb]; omega, hkw2.trans hk1⟩
            case measure => simp [intOf]; omega
        · obtain rfl : j = 5 := by omega
          obtain rfl : k = 24 := HK.out
          rw [KN.out]
          go_wp2
          go_ret
          exact ⟨rfl, hkw2⟩

set_option maxRecDepth 100000 in
theorem LabelPaschal_contract (H : Type) (enc : TypeId × Value → H) (W : World) (base : Nat) (args : Array Value) (ds gs : List (DataW H)) (before : List MemPlace)
    (hval : ∀ (j : Nat) t v, Tryd.f7.params[j]? = some t → args[j]? = some v → Value.okWide Tryd.prog W .any base t v)
    (hW : DataW.Whole enc Tryd.prog Tryd.f7.params.toList Rows.labelPaschalSpec.vars false W args.toList ds gs before) (hL : laidMetH Tryd.prog Rows.labelPaschalRow.laid W) :
    Calls Tryd.prog 7 args W fun e W' => ∃ v, e = .returned v ∧ Rows.labelPaschalSpec.post enc Tryd.prog Tryd.f7 false true false false W args v W' := by
  have hW' := hW
  obtain ⟨p, q, hA0, hV, rfl, hfz, hnd⟩ := hW
  have hA : DataW.TrodAll enc Tryd.prog W 0 (fun _ => true) true Tryd.f7.params.toList args.toList ds p := hA0
  rw [Tryd.params7] at hA hval
  obtain ⟨v0, vs0, d0, ds0, p0, q0, hargs, rfl, rfl, h0, r0⟩ := trodAll_cons hA
  obtain ⟨rfl, rfl, rfl⟩ := trodAll_nil r0
  obtain rfl : args = #[v0] := by cases args; simp_all
  obtain ⟨rfl, rfl⟩ := trodVars_none hV
  obtain ⟨a0, rfl, rfl, rfl, w0⟩ := open_int Tryd.underlying5 (hval 0 5 v0 rfl rfl) h0
  clear hA0
  simp only [List.append_nil] at hW'
  refine (LabelPaschal_walk a0 (wf_bounds8 w0) W (tab_of hL)).mono fun e W' ⟨he, hg⟩ => ?_
  subst he
  exact ⟨_, rfl, post_of_kept (pa := []) (pv := []) hW' (fun _ _ _ => (trodAll_cons_mk (shut_bool Tryd.underlying4 _) trodAll_mk0)) (fun sp _ => (trodAll_cons_mk (shut_int Tryd.underlying5 w0) trodAll_mk0)) (fun _ _ => rfl) rfl
    hg (ok_one (by kernel_rfl) rfl (okWide_bool_mk Tryd.underlying4 _))⟩
theorem LabelPaschal_laid (os : Os) : laidMet Tryd.prog Rows.labelPaschalRow.laid ((laidWorld os).forCall (fun _ _ => 0) ⟨#[], #[.int .u8 0], []⟩).memory :=
  laidMet_of_run' 8 (by kernel_rfl) (by kernel_rfl)
theorem LabelPaschal_reads (os : Os) {H : Type} (enc : TypeId × Value → H) : ∃ places, DataW.whole enc Tryd.prog ((laidWorld os).forCall (fun _ _ => 0) ⟨#[], #[.int .u8 0], []⟩).memory Tryd.f7.params.toList Rows.labelPaschalSpec.vars false (#[.int .u8 0] : Array Value).toList 8 = some ([.lit (.int .u8 0)], [], places) :=
  ⟨[], by kernel_rfl⟩
set_option maxRecDepth 100000 in
theorem LabelPaschal_lifted (os : Os) (started : os.Started) (H : Type) (enc : TypeId × Value → H) (F : Stop.Interp) :
    ReturnsInHanded {} Tryd.checked os 7 .any ((OpenSpec.ofChange Rows.labelPaschalSpec).preRow enc Tryd.prog Tryd.f7 Rows.labelPaschalRow.domain false Rows.labelPaschalRow.laid) (((OpenSpec.ofChange Rows.labelPaschalSpec).at F).post enc Tryd.prog Tryd.f7 false true false false) := by
  obtain ⟨places, hx⟩ := LabelPaschal_reads os enc
  refine returnsInHanded_of_row (C := Tryd.checked) (s := OpenSpec.ofChange Rows.labelPaschalSpec) own_knob started (by kernel_rfl) Tryd.func7
    (witness_row_at (enc := enc) (C := Tryd.checked) false (laidWorld os) #[.int .u8 0] rfl (by kernel_rfl) (by kernel_rfl) (by kernel_rfl)
      (OpenSpec.preRow_of_cond 8 hx (by kernel_rfl) (fun k hk => by cases hk) (by kernel_rfl) (LabelPaschal_laid os))) ?_
  intro W base args ds gs before hval hW _ _ _ hL _ _
  exact LabelPaschal_contract H enc W base args ds gs before hval hW hL
theorem LabelPaschal_said : Rows.LabelPaschalSaid :=
  OpenClaim.holds_of_cond 7 Tryd.f7 rfl rfl rfl rfl rfl rfl rfl ⟨rfl, rfl, rfl, rfl, rfl⟩ rfl rfl rfl rfl rfl (by kernel_rfl) Tryd.func7 (by kernel_rfl)
    (of_decide_eq_true (by kernel_rfl)) (by unfold Func.isWrapper; first | (rw [if_pos (by decide +kernel)]; kernel_rfl) | (rw [if_neg (by decide +kernel)]; exact ⟨rfl, rfl⟩))
    (fun os started H enc _ F => by rw [OpenClaim.pre_eq_preRow]; exact LabelPaschal_lifted os started H enc F)
theorem LabelPaschal_plain (f : FuncId) (fn : Func) (hf : Tryd.pinned.checked.prog.funcNamed "computus/computuslaw08.LabelPaschal" = some f) (hfn : Tryd.pinned.checked.prog.funcs[f]? = some fn) :
    false = Tryd.pinned.checked.prog.looks [] ∧ ∀ (j : Nat) t, fn.params[j]? = some t → Tryd.pinned.checked.prog.wantsStandIn t = false := by
  obtain rfl : f = 7 := Option.some.inj ((show Tryd.prog.funcNamed "computus/computuslaw08.LabelPaschal" = some 7 by kernel_rfl).symm.trans hf) |>.symm
  obtain rfl : fn = Tryd.f7 := (Option.some.inj (Tryd.func7.symm.trans hfn)).symm
  refine ⟨by kernel_rfl, fun j t ht => ?_⟩
  rw [Tryd.params7] at ht
  have hm : t ∈ [5] := by simpa using Array.mem_of_getElem? ht
  have hall : ([5].all fun u => !Tryd.prog.wantsStandIn u) = true := by kernel_rfl
  exact (show Tryd.prog.wantsStandIn t = false by simpa using List.all_eq_true.1 hall t hm)
theorem LabelPaschal_proved : Rows.LabelPaschalCardSaid :=
  Claim7.holds_tied_plain_at .later [] _ _ _ _ LabelPaschal_said (fun _ h => by cases h) (by kernel_rfl) (fun _ h => by cases h) labelPaschal_row_tie rfl ⟨rfl, rfl⟩ (by kernel_rfl) rfl LabelPaschal_plain (by kernel_rfl)
#print axioms LabelPaschal_proved
end Go.Proofs.YtennmbcimbgleaaDoor

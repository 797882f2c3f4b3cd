/- LabelDays. -/
import Derived.Test.YtennmbcimbgleaaDoorLabP
import Derived.Test.YtennmbcimbgleaaDoorLaid08
set_option linter.unusedSimpArgs false
set_option linter.unusedVariables false
set_option linter.unusedSectionVars false
namespace Go.Proofs.YtennmbcimbgleaaDoor
open Go.ChangeShapes Go.WideShapes Go.ChangeAt Go.RowKit
set_option maxHeartbeats 1000000

theorem LabelDays_walk (l : Int) (_b1 : -9223372036854775808 ≤ l ∧ l ≤ 9223372036854775807) (w : World) (hT : LTab w) :
    Calls Tryd.prog 4 #[.int .i64 l] w fun e w' => e = .returned (.bool true) ∧ Kept w w' := by
  have KT := Lib.hid (fun w' (k : Kept w w') => hT.kept k)
  have KW := Lib.hid (Lab_awake w hT)
  have KR := Lib.hid (fun m d => bears_range m d l)
  have KL := Lib.hid (fun b m w => rLen_any b m w)
  have KE := Lib.hid (bearsL_len l)
  have KS := Lib.hid (fun m d h => ahd_step l m d h)
  have KA := Lib.hid (fun m d h hb => ahd_at l m d h hb)
  have KZ := Lib.hid (ahd_end l)
  have KM := Lib.hid (ahd_le l)
  have K0 : ahd l 0 = 0 := rfl
  clear hT
  go_enter Tryd.func4, Tryd.ntmps4
  go_wp2_with fail
  go_at_call 8
  refine (KW.out).mono ?_
  rintro e w1 ⟨rfl, k1⟩
  go_wp2_with fail
  go_at_call 16
  refine (Days_pairs l w1 (KT.out _ k1)).mono ?_
  rintro e w2 ⟨o, c, rfl, hp, q2⟩
  have k2 := k1.trans q2
  have KP := Lib.hid hp
  clear hp
  generalize bearsL l dayList = L at *
  go_wp2
  go_loopw [4, 5] (fun a i wr => ∃ k : Int, 1 ≤ k ∧ k ≤ 13 ∧ i = .int .i64 k ∧ a = .int .i64 (ahd l (cum false k).toNat) ∧ Kept w wr ∧ Kept w2 wr) (fun _ i _ => (13 - intOf i).toNat)
  case atStart => exact ⟨1, by omega, by omega, rfl, by rw [show cum false 1 = 0 from by decide]; rfl, k2, Kept.refl _⟩
  case round =>
    obtain ⟨k, p1, p2, rfl, rfl, hkw, hk2⟩ := hrel
    by_cases hlt : k ≤ 12
    · have HM := Lib.hid (mlen_bounds false k p1 hlt)
      have HC := Lib.hid (cum_bounds false k p1 (by omega))
      have HS := Lib.hid (cum_succ false k p1 hlt)
      go_wp2
      go_loopw [4, 6] (fun a i wr => ∃ q : Int, 1 ≤ q ∧ q ≤ mlen false k + 1 ∧ i = .int .i64 q ∧ a = .int .i64 (ahd l (cum false k + q - 1).toNat) ∧ Kept w wr ∧ Kept w2 wr) (fun _ i _ => (40 - intOf i).toNat)
      case atStart => exact ⟨1, by omega, by have := HM.out; omega, rfl, by rw [show cum false k + 1 - 1 = cum false k from by omega], hkw, hk2⟩
      case round =>
        obtain ⟨q, q1, q2, rfl, rfl, hkw', hk2'⟩ := hrel
        have hM := HM.out
        by_cases hq : q ≤ mlen false k
        · have hE : Ex k q := ⟨p1, hlt, q1, hq⟩
          have HST := Lib.hid (KS.out k q hE)
          have HN := Lib.hid (dayN_bounds k q hE)
          have HD : Hid (cum false k + q - 1 = dayN k q ∧ (cum false k + (q + 1) - 1).toNat = (dayN k q).toNat + 1) := (show _ ∧ _ from ⟨rfl, by have := HN.out; unfold dayN at *; omega⟩)
          have HA := Lib.hid (KA.out k q hE)
          have HB := Lib.hid (fun w => rBears_of k q l w)
          have HR := Lib.hid (KR.out k q)
          have hA0 := KM.out (dayN k q).toNat
          rw [HD.out.1]
          by_cases h1 : 1 ≤ l
          · by_cases h2 : l ≤ 31
            · cases hb : bears k q l with
              | false =>
                rw [hb] at HB
                have HST2 : Hid (ahd l ((dayN k q).toNat + 1) = ahd l (dayN k q).toNat) := (show _ = _ from by rw [HST.out, hb]; rfl)
                generalize ahd l (dayN k q).toNat = A at *
                go_wp2_with first | (go_at_call 17; (with_reducible refine (KL.out _ _ _).mono ?_); rintro e w1 ⟨rfl, rfl⟩) | (go_at_call 15; (with_reducible refine (HB.out _).mono ?_); rintro e w1 ⟨rfl, hk1⟩)
                go_roundw
                case rel => exact ⟨q + 1, by omega, by omega, by go_num, by rw [HD.out.2, HST2.out], hkw'.trans hk1, hk2'.trans hk1⟩
                case measure => simp [intOf]; omega
              | true =>
                rw [hb] at HB
                have HST2 : Hid (ahd l ((dayN k q).toNat + 1) = ahd l (dayN k q).toNat + 1) := (show _ = _ from by rw [HST.out, hb]; rfl)
                obtain ⟨hA1, hA2⟩ := HA.out hb
                obtain ⟨g, rfl, hc1, hc2⟩ := KP.out _ hA1
                rw [hA2, Nat.mul_comm] at hc1 hc2
                have HX := Lib.hid (fun w' (kk : Kept w2 w') => And.intro ((kk.cell _ _ (lt_cellL hc1)).trans hc1) ((kk.cell _ _ (lt_cellL hc2)).trans hc2))
                clear hc1 hc2
                generalize ahd l (dayN k q).toNat = A at *
                have hi : (A : Int) < (L.length : Int) := by omega
                go_wp2_with first | (go_at_call 17; (with_reducible refine (KL.out _ _ _).mono ?_); rintro e w1 ⟨rfl, rfl⟩) | ((go_at_call 15; (with_reducible refine (HB.out _).mono ?_); rintro e w1 ⟨rfl, hk1⟩); obtain ⟨hc1, hc2⟩ := HX.out _ (hk2'.trans hk1))
                go_roundw
                case rel => exact ⟨q + 1, by omega, by omega, by go_num, by rw [HD.out.2, HST2.out]; go_num, hkw'.trans hk1, hk2'.trans hk1⟩
                case measure => simp [intOf]; omega
            · have hb : bears k q l = false := by
                cases hb : bears k q l with
                | false => rfl
                | true => exact absurd (HR.out hb).2 h2
              have HST2 : Hid (ahd l ((dayN k q).toNat + 1) = ahd l (dayN k q).toNat) := (show _ = _ from by rw [HST.out, hb]; rfl)
              generalize ahd l (dayN k q).toNat = A at *
              go_wp2_with (go_at_call 17; (with_reducible refine (KL.out _ _ _).mono ?_); rintro e w1 ⟨rfl, rfl⟩)
              go_roundw
              case rel => exact ⟨q + 1, by omega, by omega, by go_num, by rw [HD.out.2, HST2.out], hkw', hk2'⟩
              case measure => simp [intOf]; omega
          · have hb : bears k q l = false := by
              cases hb : bears k q l with
              | false => rfl
              | true => exact absurd (HR.out hb).1 h1
            have HST2 : Hid (ahd l ((dayN k q).toNat + 1) = ahd l (dayN k q).toNat) := (show _ = _ from by rw [HST.out, hb]; rfl)
            generalize ahd l (dayN k q).toNat = A at *
            go_wp2_with (go_at_call 17; (with_reducible refine (KL.out _ _ _).mono ?_); rintro e w1 ⟨rfl, rfl⟩)
            go_roundw
            case rel => exact ⟨q + 1, by omega, by omega, by go_num, by rw [HD.out.2, HST2.out], hkw', hk2'⟩
            case measure => simp [intOf]; omega
        · have HQ : Hid (cum false k + q - 1 = cum false (k + 1)) := (show _ = _ from by rw [HS.out]; omega)
          rw [HQ.out]
          go_wp2_with (go_at_call 17; (with_reducible refine (KL.out _ _ _).mono ?_); rintro e w1 ⟨rfl, rfl⟩)
          go_roundw
          case rel => exact ⟨k + 1, by omega, by omega, by go_num, rfl, hkw', hk2'⟩
          case measure => simp [intOf]; omega
    · obtain rfl : k = 13 := by omega
      rw [show (cum false 13).toNat = 365 from by decide, KZ.out]
      go_wp2
      go_ret
      exact ⟨by simp, hkw⟩

set_option maxRecDepth 100000 in
theorem LabelDays_contract (H : Type) (enc : TypeId × Value → H) (W : World) (base : Nat) (args : Array Value) (ds gs : List (DataW H)) (before : List MemPlace)
    (hval : ∀ (j : Nat) t v, Tryd.f4.params[j]? = some t → args[j]? = some v → Value.okWide Tryd.prog W .any base t v)
    (hW : DataW.Whole enc Tryd.prog Tryd.f4.params.toList Rows.labelDaysSpec.vars false W args.toList ds gs before) (hL : laidMetH Tryd.prog Rows.labelDaysRow.laid W) :
    Calls Tryd.prog 4 args W fun e W' => ∃ v, e = .returned v ∧ Rows.labelDaysSpec.post enc Tryd.prog Tryd.f4 false true false false W args v W' := by
  have hW' := hW
  obtain ⟨p, q, hA0, hV, rfl, hfz, hnd⟩ := hW
  have hA : DataW.TrodAll enc Tryd.prog W 0 (fun _ => true) true Tryd.f4.params.toList args.toList ds p := hA0
  rw [Tryd.params4] at hA hval
  obtain ⟨v0, vs0, d0, ds0, p0, q0, hargs, rfl, rfl, h0, r0⟩ := trodAll_cons hA
  obtain ⟨rfl, rfl, rfl⟩ := trodAll_nil r0
  obtain rfl : args = #[v0] := by cases args; simp_all
  obtain ⟨rfl, rfl⟩ := trodVars_none hV
  obtain ⟨a0, rfl, rfl, rfl, w0⟩ := open_int Tryd.underlying3 (hval 0 3 v0 rfl rfl) h0
  clear hA0
  simp only [List.append_nil] at hW'
  refine (LabelDays_walk a0 (wf_bounds w0) W (tab_of hL)).mono fun e W' ⟨he, hg⟩ => ?_
  subst he
  exact ⟨_, rfl, post_of_kept (pa := []) (pv := []) hW' (fun _ _ _ => (trodAll_cons_mk (shut_bool Tryd.underlying4 _) trodAll_mk0)) (fun sp _ => (trodAll_cons_mk (shut_int Tryd.underlying3 w0) trodAll_mk0)) (fun _ _ => rfl) rfl
    hg (ok_one (by kernel_rfl) rfl (okWide_bool_mk Tryd.underlying4 _))⟩
theorem LabelDays_laid (os : Os) : laidMet Tryd.prog Rows.labelDaysRow.laid ((laidWorld os).forCall (fun _ _ => 0) ⟨#[], #[.int .i64 0], []⟩).memory :=
  laidMet_of_run' 8 (by kernel_rfl) (by kernel_rfl)
theorem LabelDays_reads (os : Os) {H : Type} (enc : TypeId × Value → H) : ∃ places, DataW.whole enc Tryd.prog ((laidWorld os).forCall (fun _ _ => 0) ⟨#[], #[.int .i64 0], []⟩).memory Tryd.f4.params.toList Rows.labelDaysSpec.vars false (#[.int .i64 0] : Array Value).toList 8 = some ([.lit (.int .i64 0)], [], places) :=
  ⟨[], by kernel_rfl⟩
set_option maxRecDepth 100000 in
theorem LabelDays_lifted (os : Os) (started : os.Started) (H : Type) (enc : TypeId × Value → H) (F : Stop.Interp) :
    ReturnsInHanded {} Tryd.checked os 4 .any ((OpenSpec.ofChange Rows.labelDaysSpec).preRow enc Tryd.prog Tryd.f4 Rows.labelDaysRow.domain false Rows.labelDaysRow.laid) (((OpenSpec.ofChange Rows.labelDaysSpec).at F).post enc Tryd.prog Tryd.f4 false true false false) := by
  obtain ⟨places, hx⟩ := LabelDays_reads os enc
  refine returnsInHanded_of_row (C := Tryd.checked) (s := OpenSpec.ofChange Rows.labelDaysSpec) own_knob started (by kernel_rfl) Tryd.func4
    (witness_row_at (enc := enc) (C := Tryd.checked) false (laidWorld os) #[.int .i64 0] rfl (by kernel_rfl) (by kernel_rfl) (by kernel_rfl)
      (OpenSpec.preRow_of_cond 8 hx (by kernel_rfl) (fun k hk => by cases hk) (by kernel_rfl) (LabelDays_laid os))) ?_
  intro W base args ds gs before hval hW _ _ _ hL _ _
  exact LabelDays_contract H enc W base args ds gs before hval hW hL
theorem LabelDays_said : Rows.LabelDaysSaid :=
  OpenClaim.holds_of_cond 4 Tryd.f4 rfl rfl rfl rfl rfl rfl rfl ⟨rfl, rfl, rfl, rfl, rfl⟩ rfl rfl rfl rfl rfl (by kernel_rfl) Tryd.func4 (by kernel_rfl)
    (of_decide_eq_true (by kernel_rfl)) (by unfold Func.isWrapper; first | (rw [if_pos (by decide +kernel)]; kernel_rfl) | (rw [if_neg (by decide +kernel)]; exact ⟨rfl, rfl⟩))
    (fun os started H enc _ F => by rw [OpenClaim.pre_eq_preRow]; exact LabelDays_lifted os started H enc F)
theorem LabelDays_plain (f : FuncId) (fn : Func) (hf : Tryd.pinned.checked.prog.funcNamed "computus/computuslaw08.LabelDays" = some f) (hfn : Tryd.pinned.checked.prog.funcs[f]? = some fn) :
    false = Tryd.pinned.checked.prog.looks [] ∧ ∀ (j : Nat) t, fn.params[j]? = some t → Tryd.pinned.checked.prog.wantsStandIn t = false := by
  obtain rfl : f = 4 := Option.some.inj ((show Tryd.prog.funcNamed "computus/computuslaw08.LabelDays" = some 4 by kernel_rfl).symm.trans hf) |>.symm
  obtain rfl : fn = Tryd.f4 := (Option.some.inj (Tryd.func4.symm.trans hfn)).symm
  refine ⟨by kernel_rfl, fun j t ht => ?_⟩
  rw [Tryd.params4] at ht
  have hm : t ∈ [3] := by simpa using Array.mem_of_getElem? ht
  have hall : ([3].all fun u => !Tryd.prog.wantsStandIn u) = true := by kernel_rfl
  exact (show Tryd.prog.wantsStandIn t = false by simpa using List.all_eq_true.1 hall t hm)
theorem LabelDays_proved : Rows.LabelDaysCardSaid :=
  Claim7.holds_tied_plain_at .later [] _ _ _ _ LabelDays_said (fun _ h => by cases h) (by kernel_rfl) (fun _ h => by cases h) labelDays_row_tie rfl ⟨rfl, rfl⟩ (by kernel_rfl) rfl LabelDays_plain (by kernel_rfl)
#print axioms LabelDays_proved
end Go.Proofs.YtennmbcimbgleaaDoor

/- LabelLunations. -/
import Derived.Test.YtennmbcimbgleaaDoorLabP
import Derived.Test.YtennmbcimbgleaaDoorLaid08
set_option linter.unusedSimpArgs false
set_option linter.unusedVariables false
set_option linter.unusedSectionVars false
namespace Go.Proofs.YtennmbcimbgleaaDoor
open Go.ChangeShapes Go.WideShapes Go.ChangeAt Go.RowKit
set_option maxHeartbeats 1000000

def lunOkAt (i : Nat) (before : Int) : List (Int × Int) → Bool
  | [] => true
  | p :: t => decide (Ex p.1 p.2) && decide (lun (dayN p.1 p.2) = i) && (i == 0 || (decide (29 ≤ cum false p.1 + p.2 - before) && decide (cum false p.1 + p.2 - before ≤ 30))) && lunOkAt (i + 1) (cum false p.1 + p.2) t
theorem lun_all : ∀ l : Fin 32, 1 ≤ l.val → (12 ≤ (bearsL (l.val : Int) dayList).length ∧ (bearsL (l.val : Int) dayList).length ≤ 13) ∧ lunOkAt 0 0 (bearsL (l.val : Int) dayList) = true := by decide +kernel
theorem LabelLunations_walk (n : Int) (_b : 0 ≤ n ∧ n ≤ 255) (w : World) (hT : LTab w) :
    Calls Tryd.prog 5 #[.int .u8 n] w fun e w' => e = .returned (.bool true) ∧ Kept w w' := by
  obtain ⟨c1, c2⟩ := _b
  have KT := Lib.hid (fun w' (k : Kept w w') => hT.kept k)
  have KW := Lib.hid (Lab_awake w hT)
  have KO := Lib.hid (lun_all ⟨(1 + n % 31).toNat, by omega⟩ (by show 1 ≤ (1 + n % 31).toNat; omega))
  have hl : (((⟨(1 + n % 31).toNat, by omega⟩ : Fin 32).val : Nat) : Int) = 1 + n % 31 := by show (((1 + n % 31).toNat : Nat) : Int) = _; omega
  rw [hl] at KO
  clear hl hT
  go_enter Tryd.func5, Tryd.ntmps5
  go_wp2_with fail
  go_at_call 8
  refine (KW.out).mono ?_
  rintro e w1 ⟨rfl, k1⟩
  go_wp2_with fail
  go_at_call 16
  generalize 1 + n % 31 = l at *
  refine (Days_pairs l w1 (KT.out _ k1)).mono ?_
  rintro e w2 ⟨o, c, rfl, hp, q2⟩
  have k2 := k1.trans q2
  have KP := Lib.hid hp
  clear hp
  generalize bearsL l dayList = L at *
  obtain ⟨⟨g1, g2⟩, g3⟩ := KO.out
  have KG := Lib.hid g3
  clear g3 KO
  go_wp2
  go_loopw [5, 6] (fun a i wr => ∃ k : Nat, k ≤ L.length ∧ i = .int .i64 k ∧ ∃ x : Int, a = .int .i64 x ∧ 0 ≤ x ∧ x ≤ 400 ∧ Hid (lunOkAt k x (L.drop k) = true) ∧ Kept w wr ∧ Kept w2 wr) (fun _ i _ => (L.length - intOf i).toNat)
  case atStart => exact ⟨0, by omega, rfl, 0, rfl, by omega, by omega, KG, k2, Kept.refl _⟩
  case round =>
    obtain ⟨k, p1, rfl, x, rfl, x1, x2, HL, hkw, hk2⟩ := hrel
    by_cases hlt : k < L.length
    · obtain ⟨g, rfl, hc1, hc2⟩ := (KP.out.kept hk2) _ hlt
      have hd : L.drop k = L[k]! :: L.drop (k + 1) := by rw [List.drop_eq_getElem_cons hlt, List.getElem!_eq_getElem?_getD]; simp [hlt]
      have hf := HL.out
      rw [hd] at hf
      unfold lunOkAt at hf
      generalize L[k]! = p at *
      obtain ⟨m, d⟩ := p
      simp only [Bool.and_eq_true, decide_eq_true_eq, Bool.or_eq_true, beq_iff_eq] at hf
      obtain ⟨⟨⟨f1, f2⟩, f3⟩, f4⟩ := hf
      have HF4 := Lib.hid f4
      have hE := Lib.hid f1
      have KPo : Hid (∀ w', Kept wr w' ∧ (∀ b o, b < wr.heap.size → w'.cell? ⟨b, o, none⟩ = wr.cell? ⟨b, o, none⟩) → Calls Tryd.prog 9 #[.int .i64 m, .int .i64 d] w' fun e w'' => e = .returned (.tuple #[.int .i64 k, .int .i64 (psn (dayN m d)), .bool true]) ∧ Kept w' w'') := (show ∀ _, _ → _ from fun w' hh => by
        refine (Position_ok m d w' (KT.out _ (hkw.trans hh.1)) f1).mono ?_
        rintro e w'' ⟨rfl, rfl⟩
        exact ⟨by rw [f2], Kept.refl _⟩)
      obtain ⟨e1, e2, e3, e4⟩ := f1
      have hM := mlen_bounds false m e1 e2
      have hB := cum_bounds false m e1 (by omega)
      have KD : Hid (∀ w', Calls Tryd.prog 18 #[.int .i64 m, .int .i64 d] w' fun e w'' => e = .returned (.int .i64 (cum false m + d)) ∧ Kept w' w'') := (show ∀ _, _ from fun w' => by
        refine (dayOfYear_of m d w' e1 (by omega) (by omega) (by omega)).mono ?_
        rintro e w'' ⟨rfl, rfl⟩
        exact ⟨rfl, Kept.refl _⟩)
      have hi : (k : Int) < (L.length : Int) := by omega
      clear hd f4 f2
      dsimp only at hc1 hc2 f3
      rw [Nat.mul_comm] at hc1 hc2
      have hg := lt_cellL hc1
      by_cases hk0 : k = 0
      · subst hk0
        simp only [Nat.zero_mul, Nat.zero_add] at hc1 hc2
        go_wp2
        go_region_held3 (fun w' => Kept (wr) w' ∧ (∀ b o, b < (wr).heap.size → w'.cell? ⟨b, o, none⟩ = (wr).cell? ⟨b, o, none⟩)) (first | exact held_of (Kept.drew (Kept.refl _)) | exact held_of (Kept.trans (And.left (by assumption)) (by assumption))) (first | (go_at_call 9; (with_reducible refine (KPo.out _ (by assumption)).mono ?_); rintro e w1 ⟨rfl, hk1⟩))
        have kk1 : Kept wr w1 := And.left (by assumption)
        have hd1 := (kk1.cell _ _ (lt_cellL hc1)).trans hc1
        have hd2 := (kk1.cell _ _ (lt_cellL hc2)).trans hc2
        have hg1 := lt_cellL hd1
        go_wp2
        go_region_held3 (fun w' => Kept (w1) w' ∧ (∀ b o, b < (w1).heap.size → w'.cell? ⟨b, o, none⟩ = (w1).cell? ⟨b, o, none⟩)) (first | exact held_of (Kept.drew (Kept.refl _)) | exact held_of (Kept.trans (And.left (by assumption)) (by assumption))) (first | (go_at_call 18; (with_reducible refine (KD.out _).mono ?_); rintro e w3 ⟨rfl, hk3⟩))
        have kk3 : Kept w1 w3 := And.left (by assumption)
        go_wp2
        go_roundw
        case rel => exact ⟨1, by omega, by go_num, _, rfl, by omega, by omega, HF4, (hkw.trans kk1).trans kk3, (hk2.trans kk1).trans kk3⟩
        case measure => simp [intOf]; omega
      · have f5 : 29 ≤ cum false m + d - x ∧ cum false m + d - x ≤ 30 := by omega
        clear f3
        go_wp2
        go_region_held3 (fun w' => Kept (wr) w' ∧ (∀ b o, b < (wr).heap.size → w'.cell? ⟨b, o, none⟩ = (wr).cell? ⟨b, o, none⟩)) (first | exact held_of (Kept.drew (Kept.refl _)) | exact held_of (Kept.trans (And.left (by assumption)) (by assumption))) (first | (go_at_call 9; (with_reducible refine (KPo.out _ (by assumption)).mono ?_); rintro e w1 ⟨rfl, hk1⟩))
        have kk1 : Kept wr w1 := And.left (by assumption)
        have hd1 := (kk1.cell _ _ (lt_cellL hc1)).trans hc1
        have hd2 := (kk1.cell _ _ (lt_cellL hc2)).trans hc2
        have hg1 := lt_cellL hd1
        go_wp2
        go_region_held3 (fun w' => Kept (w1) w' ∧ (∀ b o, b < (w1).heap.size → w'.cell? ⟨b, o, none⟩ = (w1).cell? ⟨b, o, none⟩)) (first | exact held_of (Kept.drew (Kept.refl _)) | exact held_of (Kept.trans (And.left (by assumption)) (by assumption))) (first | (go_at_call 18; (with_reducible refine (KD.out _).mono ?_); rintro e w3 ⟨rfl, hk3⟩))
        have kk3 : Kept w1 w3 := And.left (by assumption)
        go_wp2
        go_roundw
        case rel => exact ⟨k + 1, by omega, by go_num, _, rfl, by omega, by omega, HF4, (hkw.trans kk1).trans kk3, (hk2.trans kk1).trans kk3⟩
        case measure => simp [intOf]; omega
    · obtain rfl : k = L.length := by omega
      go_wp2
      go_ret
      exact ⟨rfl, hkw⟩

set_option maxRecDepth 100000 in
theorem LabelLunations_contract (H : Type) (enc : TypeId × Value → H) (W : World) (base : Nat) (args : Array Value) (ds gs : List (DataW H)) (before : List MemPlace)
    (hval : ∀ (j : Nat) t v, Tryd.f5.params[j]? = some t → args[j]? = some v → Value.okWide Tryd.prog W .any base t v)
    (hW : DataW.Whole enc Tryd.prog Tryd.f5.params.toList Rows.labelLunationsSpec.vars false W args.toList ds gs before) (hL : laidMetH Tryd.prog Rows.labelLunationsRow.laid W) :
    Calls Tryd.prog 5 args W fun e W' => ∃ v, e = .returned v ∧ Rows.labelLunationsSpec.post enc Tryd.prog Tryd.f5 false true false false W args v W' := by
  have hW' := hW
  obtain ⟨p, q, hA0, hV, rfl, hfz, hnd⟩ := hW
  have hA : DataW.TrodAll enc Tryd.prog W 0 (fun _ => true) true Tryd.f5.params.toList args.toList ds p := hA0
  rw [Tryd.params5] at hA hval
  obtain ⟨v0, vs0, d0, ds0, p0, q0, hargs, rfl, rfl, h0, r0⟩ := trodAll_cons hA
  obtain ⟨rfl, rfl, rfl⟩ := trodAll_nil r0
  obtain rfl : args = #[v0] := by cases args; simp_all
  obtain ⟨rfl, rfl⟩ := trodVars_none hV
  obtain ⟨a0, rfl, rfl, rfl, w0⟩ := open_int Tryd.underlying5 (hval 0 5 v0 rfl rfl) h0
  clear hA0
  simp only [List.append_nil] at hW'
  refine (LabelLunations_walk a0 (wf_bounds8 w0) W (tab_of hL)).mono fun e W' ⟨he, hg⟩ => ?_
  subst he
  exact ⟨_, rfl, post_of_kept (pa := []) (pv := []) hW' (fun _ _ _ => (trodAll_cons_mk (shut_bool Tryd.underlying4 _) trodAll_mk0)) (fun sp _ => (trodAll_cons_mk (shut_int Tryd.underlying5 w0) trodAll_mk0)) (fun _ _ => rfl) rfl
    hg (ok_one (by kernel_rfl) rfl (okWide_bool_mk Tryd.underlying4 _))⟩
theorem LabelLunations_laid (os : Os) : laidMet Tryd.prog Rows.labelLunationsRow.laid ((laidWorld os).forCall (fun _ _ => 0) ⟨#[], #[.int .u8 0], []⟩).memory :=
  laidMet_of_run' 8 (by kernel_rfl) (by kernel_rfl)
theorem LabelLunations_reads (os : Os) {H : Type} (enc : TypeId × Value → H) : ∃ places, DataW.whole enc Tryd.prog ((laidWorld os).forCall (fun _ _ => 0) ⟨#[], #[.int .u8 0], []⟩).memory Tryd.f5.params.toList Rows.labelLunationsSpec.vars false (#[.int .u8 0] : Array Value).toList 8 = some ([.lit (.int .u8 0)], [], places) :=
  ⟨[], by kernel_rfl⟩
set_option maxRecDepth 100000 in
theorem LabelLunations_lifted (os : Os) (started : os.Started) (H : Type) (enc : TypeId × Value → H) (F : Stop.Interp) :
    ReturnsInHanded {} Tryd.checked os 5 .any ((OpenSpec.ofChange Rows.labelLunationsSpec).preRow enc Tryd.prog Tryd.f5 Rows.labelLunationsRow.domain false Rows.labelLunationsRow.laid) (((OpenSpec.ofChange Rows.labelLunationsSpec).at F).post enc Tryd.prog Tryd.f5 false true false false) := by
  obtain ⟨places, hx⟩ := LabelLunations_reads os enc
  refine returnsInHanded_of_row (C := Tryd.checked) (s := OpenSpec.ofChange Rows.labelLunationsSpec) own_knob started (by kernel_rfl) Tryd.func5
    (witness_row_at (enc := enc) (C := Tryd.checked) false (laidWorld os) #[.int .u8 0] rfl (by kernel_rfl) (by kernel_rfl) (by kernel_rfl)
      (OpenSpec.preRow_of_cond 8 hx (by kernel_rfl) (fun k hk => by cases hk) (by kernel_rfl) (LabelLunations_laid os))) ?_
  intro W base args ds gs before hval hW _ _ _ hL _ _
  exact LabelLunations_contract H enc W base args ds gs before hval hW hL
theorem LabelLunations_said : Rows.LabelLunationsSaid :=
  OpenClaim.holds_of_cond 5 Tryd.f5 rfl rfl rfl rfl rfl rfl rfl ⟨rfl, rfl, rfl, rfl, rfl⟩ rfl rfl rfl rfl rfl (by kernel_rfl) Tryd.func5 (by kernel_rfl)
    (of_decide_eq_true (by kernel_rfl)) (by unfold Func.isWrapper; first | (rw [if_pos (by decide +kernel)]; kernel_rfl) | (rw [if_neg (by decide +kernel)]; exact ⟨rfl, rfl⟩))
    (fun os started H enc _ F => by rw [OpenClaim.pre_eq_preRow]; exact LabelLunations_lifted os started H enc F)
theorem LabelLunations_plain (f : FuncId) (fn : Func) (hf : Tryd.pinned.checked.prog.funcNamed "computus/computuslaw08.LabelLunations" = some f) (hfn : Tryd.pinned.checked.prog.funcs[f]? = some fn) :
    false = Tryd.pinned.checked.prog.looks [] ∧ ∀ (j : Nat) t, fn.params[j]? = some t → Tryd.pinned.checked.prog.wantsStandIn t = false := by
  obtain rfl : f = 5 := Option.some.inj ((show Tryd.prog.funcNamed "computus/computuslaw08.LabelLunations" = some 5 by kernel_rfl).symm.trans hf) |>.symm
  obtain rfl : fn = Tryd.f5 := (Option.some.inj (Tryd.func5.symm.trans hfn)).symm
  refine ⟨by kernel_rfl, fun j t ht => ?_⟩
  rw [Tryd.params5] at ht
  have hm : t ∈ [5] := by simpa using Array.mem_of_getElem? ht
  have hall : ([5].all fun u => !Tryd.prog.wantsStandIn u) = true := by kernel_rfl
  exact (show Tryd.prog.wantsStandIn t = false by simpa using List.all_eq_true.1 hall t hm)
theorem LabelLunations_proved : Rows.LabelLunationsCardSaid :=
  Claim7.holds_tied_plain_at .later [] _ _ _ _ LabelLunations_said (fun _ h => by cases h) (by kernel_rfl) (fun _ h => by cases h) labelLunations_row_tie rfl ⟨rfl, rfl⟩ (by kernel_rfl) rfl LabelLunations_plain (by kernel_rfl)
#print axioms LabelLunations_proved
end Go.Proofs.YtennmbcimbgleaaDoor

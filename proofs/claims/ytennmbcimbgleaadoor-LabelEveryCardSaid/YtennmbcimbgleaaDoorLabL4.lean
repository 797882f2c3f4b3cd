/- LabelEvery. -/
import Derived.Test.YtennmbcimbgleaaDoorLabP
import Derived.Test.YtennmbcimbgleaaDoorLaid08
set_option linter.unusedSimpArgs false
set_option linter.unusedVariables false
set_option linter.unusedSectionVars false
namespace Go.Proofs.YtennmbcimbgleaaDoor
open Go.ChangeShapes Go.WideShapes Go.ChangeAt Go.RowKit
set_option maxHeartbeats 1000000

/-- What the law says of the day that follows. -/
def follows (m d x y : Int) : Bool :=
  if lun (dayN x y) = lun (dayN m d) then decide (psn (dayN x y) = psn (dayN m d) + 1) && decide ((onA x y)[(onA x y).length - 1]! < (onA m d)[(onA m d).length - 1]!)
  else decide (lun (dayN x y) = lun (dayN m d) + 1) && decide (psn (dayN x y) = 0) && decide ((onA x y)[0]! = 30) && decide ((onA m d)[(onA m d).length - 1]! = 1)
theorem every_all : ∀ m : Fin 13, ∀ d : Fin 32, Ex (m.val : Int) (d.val : Int) → (1 ≤ (onA (m.val : Int) (d.val : Int)).length ∧ (onA (m.val : Int) (d.val : Int)).length ≤ 2) ∧
  (Ex (m.val : Int) ((d.val : Int) + 1) → follows (m.val : Int) (d.val : Int) (m.val : Int) ((d.val : Int) + 1) = true ∧ 1 ≤ (onA (m.val : Int) ((d.val : Int) + 1)).length ∧ (onA (m.val : Int) ((d.val : Int) + 1)).length ≤ 2) ∧
  (¬ Ex (m.val : Int) ((d.val : Int) + 1) → Ex ((m.val : Int) + 1) 1 → follows (m.val : Int) (d.val : Int) ((m.val : Int) + 1) 1 = true ∧ 1 ≤ (onA ((m.val : Int) + 1) 1).length ∧ (onA ((m.val : Int) + 1) 1).length ≤ 2) ∧
  (¬ Ex (m.val : Int) ((d.val : Int) + 1) → ¬ Ex ((m.val : Int) + 1) 1 → lun (dayN (m.val : Int) (d.val : Int)) = 12) := by decide +kernel
theorem every_ok (m d : Int) (h : Ex m d) : (1 ≤ (onA m d).length ∧ (onA m d).length ≤ 2) ∧
  (Ex m (d + 1) → follows m d m (d + 1) = true ∧ 1 ≤ (onA m (d + 1)).length ∧ (onA m (d + 1)).length ≤ 2) ∧
  (¬ Ex m (d + 1) → Ex (m + 1) 1 → follows m d (m + 1) 1 = true ∧ 1 ≤ (onA (m + 1) 1).length ∧ (onA (m + 1) 1).length ≤ 2) ∧
  (¬ Ex m (d + 1) → ¬ Ex (m + 1) 1 → lun (dayN m d) = 12) := by
  obtain ⟨h1, h2, h3, h4⟩ := id h
  have hb := mlen_bounds false m h1 h2
  have := every_all ⟨m.toNat, by omega⟩ ⟨d.toNat, by omega⟩
  simp only [Int.toNat_of_nonneg (show 0 ≤ m by omega), Int.toNat_of_nonneg (show 0 ≤ d by omega)] at this
  exact this h
theorem ints_first {w : World} {o : Option Addr} {L : List Int} (h : IsInts w o L) (hn : 1 ≤ L.length) : ∃ b, o = some ⟨b, 0, none⟩ ∧ b < w.heap.size ∧ w.cell? ⟨b, 0, none⟩ = some (.int .i64 L[0]!) ∧ w.cell? ⟨b, L.length - 1, none⟩ = some (.int .i64 L[L.length - 1]!) := by
  obtain ⟨b, rfl, hc⟩ := h 0 (by omega)
  obtain ⟨b', e, hc'⟩ := h (L.length - 1) (by omega)
  obtain rfl : b = b' := by simpa using e
  exact ⟨b, rfl, lt_cellL hc, hc, hc'⟩
set_option maxHeartbeats 2000000 in
theorem LabelEvery_walk (a b : Int) (_b1 : 0 ≤ a ∧ a ≤ 255) (_b2 : 0 ≤ b ∧ b ≤ 255) (w : World) (hT : LTab w) :
    Calls Tryd.prog 6 #[.int .u8 a, .int .u8 b] w fun e w' => e = .returned (.bool true) ∧ Kept w w' := by
  obtain ⟨a1, a2⟩ := _b1
  obtain ⟨b1, b2⟩ := _b2
  have KT := Lib.hid (fun w' (k : Kept w w') => hT.kept k)
  have KW := Lib.hid (fun w' (hh : LTab w') => Lab_awake w' hh)
  have KE := Lib.hid (fun m d w => rExists_of m d w)
  have hTw := Lib.hid hT
  clear hT
  go_enter Tryd.func6, Tryd.ntmps6
  go_wp2_with fail
  go_at_call 8
  refine (KW.out w hTw.out).mono ?_
  rintro e w1 ⟨rfl, k1⟩
  have hm : 1 ≤ 1 + a % 12 ∧ 1 + a % 12 ≤ 12 := by omega
  have hd : 1 ≤ 1 + b % 31 ∧ 1 + b % 31 ≤ 31 := by omega
  generalize 1 + a % 12 = m at *
  generalize 1 + b % 31 = d at *
  go_wp2_with fail
  go_at_call 19
  refine (KE.out m d w1).mono ?_
  by_cases hE : Ex m d
  · rw [decide_eq_true hE]
    rintro e w' ⟨rfl, rfl⟩
    have HH := Lib.hid (every_ok m d hE)
    go_wp2_with fail
    go_at_call 12
    refine (On_any m d w1 (KT.out _ k1)).mono ?_
    rintro e w2 ⟨o2, c2, rfl, i2, q2⟩
    have k2 := k1.trans q2
    obtain ⟨n1, n2⟩ := HH.out.1
    go_wp2_with fail
    go_at_call 9
    refine (Position_ok m d w2 (KT.out _ k2) hE).mono ?_
    rintro e w' ⟨rfl, rfl⟩
    go_wp2_with fail
    go_at_call 19
    refine (KE.out m (d + 1) w2).mono ?_
    by_cases hF : Ex m (d + 1)
    · rw [decide_eq_true hF]
      rintro e w' ⟨rfl, rfl⟩
      obtain ⟨f0, n3, n4⟩ := HH.out.2.1 hF
      go_wp2_with fail
      go_at_call 19
      refine (KE.out m (d + 1) w2).mono ?_
      rw [decide_eq_true hF]
      rintro e w' ⟨rfl, rfl⟩
      go_wp2_with fail
      go_at_call 9
      refine (Position_ok m (d + 1) w2 (KT.out _ k2) hF).mono ?_
      rintro e w' ⟨rfl, rfl⟩
      go_wp2_with fail
      go_at_call 12
      refine (On_any m (d + 1) w2 (KT.out _ k2)).mono ?_
      rintro e w3 ⟨o3, c3, rfl, i3, q3⟩
      have k3 := k2.trans q3
      obtain ⟨g2, rfl, hz2, hc20, hc2l⟩ := ints_first (i2.kept q3) n1
      obtain ⟨g3, rfl, hz3, hc30, hc3l⟩ := ints_first i3 n3
      unfold follows at f0
      have hlp1 := lun_psn_bounds m d hE
      have hlp2 := lun_psn_bounds m (d + 1) hF
      generalize lun (dayN m d) = lu1 at *
      generalize lun (dayN m (d + 1)) = lu2 at *
      generalize psn (dayN m d) = ps1 at *
      generalize psn (dayN m (d + 1)) = ps2 at *
      generalize (onA m d)[(onA m d).length - 1]! = v1 at *
      generalize (onA m (d + 1))[(onA m (d + 1)).length - 1]! = v2 at *
      generalize (onA m (d + 1))[0]! = v3 at *
      generalize (onA m d).length = e1 at *
      generalize (onA m (d + 1)).length = e2 at *
      clear hc20
      by_cases hn : lu2 = lu1
      · rw [if_pos hn] at f0
        subst hn
        simp only [Bool.and_eq_true, decide_eq_true_eq] at f0
        obtain ⟨f1, f2⟩ := f0
        subst f1
        go_wp2
        go_region
        go_wp2
        go_ret
        exact ⟨rfl, (by repeat (first | with_reducible exact Kept.refl _ | with_reducible assumption | with_reducible refine Kept.drew ?_ | with_reducible refine Kept.drewN ?_ _ | with_reducible refine Kept.alloc ?_ _ | (with_reducible refine Kept.setCell ?_ (by first | exact Nat.le_refl _ | omega | (simp; done) | (simp; omega)) _) | (with_reducible refine Kept.trans ?_ (by with_reducible assumption))))⟩
      · rw [if_neg hn] at f0
        simp only [Bool.and_eq_true, decide_eq_true_eq] at f0
        obtain ⟨⟨⟨f1, f2⟩, f3⟩, f4⟩ := f0
        subst f1
        subst f2
        subst f3
        subst f4
        go_wp2
        go_ret
        exact ⟨rfl, (by repeat (first | with_reducible exact Kept.refl _ | with_reducible assumption | with_reducible refine Kept.drew ?_ | with_reducible refine Kept.drewN ?_ _ | with_reducible refine Kept.alloc ?_ _ | (with_reducible refine Kept.setCell ?_ (by first | exact Nat.le_refl _ | omega | (simp; done) | (simp; omega)) _) | (with_reducible refine Kept.trans ?_ (by with_reducible assumption))))⟩
    · rw [decide_eq_false hF]
      rintro e w' ⟨rfl, rfl⟩
      go_wp2_with fail
      go_at_call 19
      refine (KE.out (m + 1) 1 w2).mono ?_
      by_cases hG : Ex (m + 1) 1
      · rw [decide_eq_true hG]
        rintro e w' ⟨rfl, rfl⟩
        obtain ⟨f0, n3, n4⟩ := HH.out.2.2.1 hF hG
        go_wp2_with fail
        go_at_call 9
        refine (Position_ok (m + 1) 1 w2 (KT.out _ k2) hG).mono ?_
        rintro e w' ⟨rfl, rfl⟩
        go_wp2_with fail
        go_at_call 12
        refine (On_any (m + 1) 1 w2 (KT.out _ k2)).mono ?_
        rintro e w3 ⟨o3, c3, rfl, i3, q3⟩
        have k3 := k2.trans q3
        obtain ⟨g2, rfl, hz2, hc20, hc2l⟩ := ints_first (i2.kept q3) n1
        obtain ⟨g3, rfl, hz3, hc30, hc3l⟩ := ints_first i3 n3
        unfold follows at f0
        have hlp1 := lun_psn_bounds m d hE
        have hlp2 := lun_psn_bounds (m + 1) 1 hG
        generalize lun (dayN m d) = lu1 at *
        generalize lun (dayN (m + 1) 1) = lu2 at *
        generalize psn (dayN m d) = ps1 at *
        generalize psn (dayN (m + 1) 1) = ps2 at *
        generalize (onA m d)[(onA m d).length - 1]! = v1 at *
        generalize (onA (m + 1) 1)[(onA (m + 1) 1).length - 1]! = v2 at *
        generalize (onA (m + 1) 1)[0]! = v3 at *
        generalize (onA m d).length = e1 at *
        generalize (onA (m + 1) 1).length = e2 at *
        clear hc20
        by_cases hn : lu2 = lu1
        · rw [if_pos hn] at f0
          subst hn
          simp only [Bool.and_eq_true, decide_eq_true_eq] at f0
          obtain ⟨f1, f2⟩ := f0
          subst f1
          go_wp2
          go_region
          go_wp2
          go_ret
          exact ⟨rfl, (by repeat (first | with_reducible exact Kept.refl _ | with_reducible assumption | with_reducible refine Kept.drew ?_ | with_reducible refine Kept.drewN ?_ _ | with_reducible refine Kept.alloc ?_ _ | (with_reducible refine Kept.setCell ?_ (by first | exact Nat.le_refl _ | omega | (simp; done) | (simp; omega)) _) | (with_reducible refine Kept.trans ?_ (by with_reducible assumption))))⟩
        · rw [if_neg hn] at f0
          simp only [Bool.and_eq_true, decide_eq_true_eq] at f0
          obtain ⟨⟨⟨f1, f2⟩, f3⟩, f4⟩ := f0
          subst f1
          subst f2
          subst f3
          subst f4
          go_wp2
          go_ret
          exact ⟨rfl, (by repeat (first | with_reducible exact Kept.refl _ | with_reducible assumption | with_reducible refine Kept.drew ?_ | with_reducible refine Kept.drewN ?_ _ | with_reducible refine Kept.alloc ?_ _ | (with_reducible refine Kept.setCell ?_ (by first | exact Nat.le_refl _ | omega | (simp; done) | (simp; omega)) _) | (with_reducible refine Kept.trans ?_ (by with_reducible assumption))))⟩
      · rw [decide_eq_false hG]
        rintro e w' ⟨rfl, rfl⟩
        have f0 := HH.out.2.2.2 hF hG
        rw [f0]
        go_wp2
        go_ret
        exact ⟨rfl, (by repeat (first | with_reducible exact Kept.refl _ | with_reducible assumption | with_reducible refine Kept.drew ?_ | with_reducible refine Kept.drewN ?_ _ | with_reducible refine Kept.alloc ?_ _ | (with_reducible refine Kept.setCell ?_ (by first | exact Nat.le_refl _ | omega | (simp; done) | (simp; omega)) _) | (with_reducible refine Kept.trans ?_ (by with_reducible assumption))))⟩
  · rw [decide_eq_false hE]
    rintro e w' ⟨rfl, rfl⟩
    go_wp2_with fail
    go_at_call 8
    refine (KW.out w1 (KT.out _ k1)).mono ?_
    rintro e w2 ⟨rfl, k2⟩
    go_wp2
    go_ret
    exact ⟨rfl, k1.trans k2⟩

set_option maxRecDepth 100000 in
theorem LabelEvery_contract (H : Type) (enc : TypeId × Value → H) (W : World) (base : Nat) (args : Array Value) (ds gs : List (DataW H)) (before : List MemPlace)
    (hval : ∀ (j : Nat) t v, Tryd.f6.params[j]? = some t → args[j]? = some v → Value.okWide Tryd.prog W .any base t v)
    (hW : DataW.Whole enc Tryd.prog Tryd.f6.params.toList Rows.labelEverySpec.vars false W args.toList ds gs before) (hL : laidMetH Tryd.prog Rows.labelEveryRow.laid W) :
    Calls Tryd.prog 6 args W fun e W' => ∃ v, e = .returned v ∧ Rows.labelEverySpec.post enc Tryd.prog Tryd.f6 false true false false W args v W' := by
  have hW' := hW
  obtain ⟨p, q, hA0, hV, rfl, hfz, hnd⟩ := hW
  have hA : DataW.TrodAll enc Tryd.prog W 0 (fun _ => true) true Tryd.f6.params.toList args.toList ds p := hA0
  rw [Tryd.params6] at hA hval
  obtain ⟨v0, vs0, d0, ds0, p0, q0, hargs, rfl, rfl, h0, r0⟩ := trodAll_cons hA
  obtain ⟨v1, vs1, d1, ds1, p1, q1, rfl, rfl, rfl, h1, r1⟩ := trodAll_cons r0
  obtain ⟨rfl, rfl, rfl⟩ := trodAll_nil r1
  obtain rfl : args = #[v0, v1] := by cases args; simp_all
  obtain ⟨rfl, rfl⟩ := trodVars_none hV
  obtain ⟨a0, rfl, rfl, rfl, w0⟩ := open_int Tryd.underlying5 (hval 0 5 v0 rfl rfl) h0
  obtain ⟨a1, rfl, rfl, rfl, w1⟩ := open_int Tryd.underlying5 (hval 1 5 v1 rfl rfl) h1
  clear hA0
  simp only [List.append_nil] at hW'
  refine (LabelEvery_walk a0 a1 (wf_bounds8 w0) (wf_bounds8 w1) W (tab_of hL)).mono fun e W' ⟨he, hg⟩ => ?_
  subst he
  exact ⟨_, rfl, post_of_kept (pa := []) (pv := []) hW' (fun _ _ _ => (trodAll_cons_mk (shut_bool Tryd.underlying4 _) trodAll_mk0)) (fun sp _ => (trodAll_cons_mk (shut_int Tryd.underlying5 w0) (trodAll_cons_mk (shut_int Tryd.underlying5 w1) trodAll_mk0))) (fun _ _ => rfl) rfl
    hg (ok_one (by kernel_rfl) rfl (okWide_bool_mk Tryd.underlying4 _))⟩
theorem LabelEvery_laid (os : Os) : laidMet Tryd.prog Rows.labelEveryRow.laid ((laidWorld os).forCall (fun _ _ => 0) ⟨#[], #[.int .u8 0, .int .u8 0], []⟩).memory :=
  laidMet_of_run' 8 (by kernel_rfl) (by kernel_rfl)
theorem LabelEvery_reads (os : Os) {H : Type} (enc : TypeId × Value → H) : ∃ places, DataW.whole enc Tryd.prog ((laidWorld os).forCall (fun _ _ => 0) ⟨#[], #[.int .u8 0, .int .u8 0], []⟩).memory Tryd.f6.params.toList Rows.labelEverySpec.vars false (#[.int .u8 0, .int .u8 0] : Array Value).toList 8 = some ([.lit (.int .u8 0), .lit (.int .u8 0)], [], places) :=
  ⟨[], by kernel_rfl⟩
set_option maxRecDepth 100000 in
theorem LabelEvery_lifted (os : Os) (started : os.Started) (H : Type) (enc : TypeId × Value → H) (F : Stop.Interp) :
    ReturnsInHanded {} Tryd.checked os 6 .any ((OpenSpec.ofChange Rows.labelEverySpec).preRow enc Tryd.prog Tryd.f6 Rows.labelEveryRow.domain false Rows.labelEveryRow.laid) (((OpenSpec.ofChange Rows.labelEverySpec).at F).post enc Tryd.prog Tryd.f6 false true false false) := by
  obtain ⟨places, hx⟩ := LabelEvery_reads os enc
  refine returnsInHanded_of_row (C := Tryd.checked) (s := OpenSpec.ofChange Rows.labelEverySpec) own_knob started (by kernel_rfl) Tryd.func6
    (witness_row_at (enc := enc) (C := Tryd.checked) false (laidWorld os) #[.int .u8 0, .int .u8 0] rfl (by kernel_rfl) (by kernel_rfl) (by kernel_rfl)
      (OpenSpec.preRow_of_cond 8 hx (by kernel_rfl) (fun k hk => by cases hk) (by kernel_rfl) (LabelEvery_laid os))) ?_
  intro W base args ds gs before hval hW _ _ _ hL _ _
  exact LabelEvery_contract H enc W base args ds gs before hval hW hL
theorem LabelEvery_said : Rows.LabelEverySaid :=
  OpenClaim.holds_of_cond 6 Tryd.f6 rfl rfl rfl rfl rfl rfl rfl ⟨rfl, rfl, rfl, rfl, rfl⟩ rfl rfl rfl rfl rfl (by kernel_rfl) Tryd.func6 (by kernel_rfl)
    (of_decide_eq_true (by kernel_rfl)) (by unfold Func.isWrapper; first | (rw [if_pos (by decide +kernel)]; kernel_rfl) | (rw [if_neg (by decide +kernel)]; exact ⟨rfl, rfl⟩))
    (fun os started H enc _ F => by rw [OpenClaim.pre_eq_preRow]; exact LabelEvery_lifted os started H enc F)
theorem LabelEvery_plain (f : FuncId) (fn : Func) (hf : Tryd.pinned.checked.prog.funcNamed "computus/computuslaw08.LabelEvery" = some f) (hfn : Tryd.pinned.checked.prog.funcs[f]? = some fn) :
    false = Tryd.pinned.checked.prog.looks [] ∧ ∀ (j : Nat) t, fn.params[j]? = some t → Tryd.pinned.checked.prog.wantsStandIn t = false := by
  obtain rfl : f = 6 := Option.some.inj ((show Tryd.prog.funcNamed "computus/computuslaw08.LabelEvery" = some 6 by kernel_rfl).symm.trans hf) |>.symm
  obtain rfl : fn = Tryd.f6 := (Option.some.inj (Tryd.func6.symm.trans hfn)).symm
  refine ⟨by kernel_rfl, fun j t ht => ?_⟩
  rw [Tryd.params6] at ht
  have hm : t ∈ [5, 5] := by simpa using Array.mem_of_getElem? ht
  have hall : ([5, 5].all fun u => !Tryd.prog.wantsStandIn u) = true := by kernel_rfl
  exact (show Tryd.prog.wantsStandIn t = false by simpa using List.all_eq_true.1 hall t hm)
theorem LabelEvery_proved : Rows.LabelEveryCardSaid :=
  Claim7.holds_tied_plain_at .later [] _ _ _ _ LabelEvery_said (fun _ h => by cases h) (by kernel_rfl) (fun _ h => by cases h) labelEvery_row_tie rfl ⟨rfl, rfl⟩ (by kernel_rfl) rfl LabelEvery_plain (by kernel_rfl)
#print axioms LabelEvery_proved
end Go.Proofs.YtennmbcimbgleaaDoor

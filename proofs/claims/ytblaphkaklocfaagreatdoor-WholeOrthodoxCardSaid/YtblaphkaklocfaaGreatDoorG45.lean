/- WholeOrthodox: for every year the answer for Orthodox Easter is the Gregorian date of the same day as the answer for Easter of the Julian calendar, which converts to it. No condition: every input that the statement speaks of. -/
import Derived.Test.YtblaphkaklocfaaGreatDoorG01
import Derived.Test.YtblaphkaklocfaaGreatDoorG39
import Derived.Test.YtblaphkaklocfaaGreatDoorG41
import Derived.Test.YtblaphkaklocfaaGreatDoorG44
set_option linter.unusedSimpArgs false
set_option linter.unusedVariables false
set_option linter.unusedSectionVars false
/- WholeOrthodox: the walk. -/
namespace Go.Proofs.YtblaphkaklocfaaGreatDoor
open Go.ChangeShapes Go.WideShapes Go.ChangeAt Go.RowKit
set_option maxHeartbeats 4000000
set_option maxRecDepth 20000

theorem fd_bounds {c n x1 x2 x3 e : Int} (h : FdC c n x1 x2 x3 e) : (-1000000000000 ≤ x1 ∧ x1 ≤ 1000000000000) ∧ (-1000000000000 ≤ x2 ∧ x2 ≤ 1000000000000) ∧ (-1000000000000 ≤ x3 ∧ x3 ≤ 1000000000000) := by
  rcases h with ⟨_, ⟨_, rfl, rfl, rfl, _⟩ | ⟨ho, _⟩⟩ | ⟨_, rfl, rfl, rfl, _⟩
  · omega
  · obtain ⟨h1, h2, h3, h4, h5, h6⟩ := ho
    have := mlen_bounds (lp c x1) x2 h3 h4
    have := mlen_bounds (lp 2 x1) x2 h3 h4
    omega
  · omega
theorem WholeOrthodox_walk (y : Int) (by0 : -9223372036854775808 ≤ y ∧ y ≤ 9223372036854775807) (w : World) (hT : WTab w) :
    Calls Tryz.prog 4 #[.int .i64 y] w fun e w' => e = .returned (.bool true) ∧ Kept w w' := by
  obtain ⟨by1, by2⟩ := by0
  have KA := Lib.hid (Top_awake w hT.1 hT.2)
  have KE := Lib.hid (fun w' (q : Kept w w') => EDate_any 1 y w' (hT.1.kept q) sm_1)
  obtain ⟨x1, x2, x3, e, hr⟩ := ot_some y
  have KO := Lib.hid (fun w' (q : Kept w w') => ODate_any y x1 x2 x3 e w' (hT.1.kept q) hr)
  rcases fl_cases 1 y with ⟨hf, e0⟩ | ⟨hf, e0⟩ | ⟨hf, e0⟩
  · obtain ⟨a1, a2, a3⟩ := ed_fit 1 y e0
    rw [a1, a2, a3, e0] at KE
    obtain ⟨g, _⟩ | ⟨_, hfd⟩ := id hr
    · exact absurd e0 g
    have hb := fd_bounds hfd
    obtain ⟨hi1, hi2, _, _⟩ := easI_bounds 1 y
    have hz := day_c 1 y (easI 1 y) hf (by omega) (by omega)
    rw [← esN_val] at hz
    have hcv : CvRel y (dmo (easI 1 y)) (dda (easI 1 y)) 1 2 x1 x2 x3 e := .inr (.inr ⟨.inr rfl, hz.1, by rw [hz.2]; exact hfd⟩)
    have KB := Lib.hid (fun w' (q : Kept w w') => ask_ort y x1 x2 x3 e w' (hT.kept q) hr hb)
    have KC := Lib.hid (fun w' (q : Kept w w') => ask_con 1 y (dmo (easI 1 y)) (dda (easI 1 y)) x1 x2 x3 e w' (hT.kept q) (by omega) hcv hb)
    by_cases he : e = 0
    · subst he
      obtain ⟨_, ho, hn⟩ := ot_zero _ _ _ _ hr
      have KR : Hid (∀ w, Calls Tryz.prog 15 #[.agg #[.int .i64 x1, .int .i64 x2, .int .i64 x3]] w fun e w' => e = .returned (.tuple #[.int .i64 (esN 1 y), .int .i64 0]) ∧ Kept w w') := (show ∀ _, _ from fun w => by
        have := rToDay_ok x1 x2 x3 w ho
        rwa [hn] at this)
      have hbn := esN_bounds 1 y hf
      have KW : Hid (∀ w, Calls Tryz.prog 16 #[.int .i64 (esN 1 y)] w fun e w' => e = .returned (.int .i64 0) ∧ w = w') := (show ∀ _, _ from fun w => by
        have := rWOf_any (esN 1 y) w (by omega) (by omega)
        rwa [esN_sunday 1 y] at this)
      have KD := Lib.hid (fun w' (q : Kept w w') => DateText_ok x1 x2 x3 w' (hT.2.kept q) hb.1 hb.2.1 hb.2.2)
      rw [show ansT 0 x1 x2 x3 = dateT x1 x2 x3 from if_pos rfl] at KB KC
      clear hr hfd hb hz hcv a1 a2 a3 e0 hf hT ho hn
      generalize dateT x1 x2 x3 = s at *
      generalize esN 1 y = n at *
      generalize dmo (easI 1 y) = m1 at *
      generalize dda (easI 1 y) = m2 at *
      go_enter Tryz.func4, Tryz.ntmps4
      go_wp2_with fail
      go_at_call 8
      refine KA.out.mono ?_
      rintro e w1 ⟨rfl, hk1⟩
      have K1 := Lib.hid hk1
      clear hk1 KA
      go_wp2_with fail
      go_at_call 13
      refine (KE.out _ K1.out).mono ?_
      rintro e w2 ⟨rfl, hk2⟩
      have K2 := Lib.hid (K1.out.trans hk2)
      clear hk2 KE K1
      go_wp2_with fail
      go_at_call 12
      refine (KC.out _ (K2.out.alloc _)).mono ?_
      rintro e w3 ⟨rfl, hk3⟩
      have K3 := Lib.hid ((K2.out.alloc _).trans hk3)
      clear hk3 KC K2
      go_wp2_with fail
      go_at_call 12
      refine (KB.out _ (K3.out.alloc _)).mono ?_
      rintro e w4 ⟨rfl, hk4⟩
      have K4 := Lib.hid ((K3.out.alloc _).trans hk4)
      have A4 := Lib.hid (((Blk.new w3 #[.string s, .int .i64 0, .int .i64 0] 25).kept hk4).alloc (.cells #[.string s, .int .i64 0, .int .i64 0] 25))
      have B4 := Lib.hid (Blk.new w4 #[.string s, .int .i64 0, .int .i64 0] 25)
      clear hk4 KB K3
      go_wp2_with fail
      go_at_call 14
      refine (KO.out _ (K4.out.alloc _)).mono ?_
      rintro e w5 ⟨rfl, hk5⟩
      have K5 := Lib.hid ((K4.out.alloc _).trans hk5)
      have A5 := A4.out.kept hk5
      have B5 := B4.out.kept hk5
      clear hk5 KO K4 A4 B4
      have a0 : w5.cell? ⟨w3.heap.size, 0, none⟩ = some (.string s) := (A5.cell _).trans rfl
      have a1 : w5.cell? ⟨w3.heap.size, 1, none⟩ = some (.int .i64 0) := (A5.cell _).trans rfl
      have a2 : w5.cell? ⟨w3.heap.size, 2, none⟩ = some (.int .i64 0) := (A5.cell _).trans rfl
      have b0 : w5.cell? ⟨w4.heap.size, 0, none⟩ = some (.string s) := (B5.cell _).trans rfl
      have b1 : w5.cell? ⟨w4.heap.size, 1, none⟩ = some (.int .i64 0) := (B5.cell _).trans rfl
      have b2 : w5.cell? ⟨w4.heap.size, 2, none⟩ = some (.int .i64 0) := (B5.cell _).trans rfl
      have la := A5.lt
      have lb := B5.lt
      have HA := Lib.hid A5
      have HB := Lib.hid B5
      clear A5 B5
      go_wp2_with fail
      go_at_call 15
      refine (KR.out _).mono ?_
      rintro e w6 ⟨rfl, hk6⟩
      have K6 := Lib.hid ((K5.out.alloc _).trans hk6)
      have A6 := (HA.out.alloc (.cells #[.int .i64 x1, .int .i64 x2, .int .i64 x3] 29)).kept hk6
      have B6 := (HB.out.alloc (.cells #[.int .i64 x1, .int .i64 x2, .int .i64 x3] 29)).kept hk6
      have X6 := (Blk.new w5 #[.int .i64 x1, .int .i64 x2, .int .i64 x3] 29).kept hk6
      clear a0 a1 a2 b0 b1 b2 la lb HA HB hk6 KR K5
      have a0 : w6.cell? ⟨w3.heap.size, 0, none⟩ = some (.string s) := (A6.cell _).trans rfl
      have a1 : w6.cell? ⟨w3.heap.size, 1, none⟩ = some (.int .i64 0) := (A6.cell _).trans rfl
      have a2 : w6.cell? ⟨w3.heap.size, 2, none⟩ = some (.int .i64 0) := (A6.cell _).trans rfl
      have b0 : w6.cell? ⟨w4.heap.size, 0, none⟩ = some (.string s) := (B6.cell _).trans rfl
      have b1 : w6.cell? ⟨w4.heap.size, 1, none⟩ = some (.int .i64 0) := (B6.cell _).trans rfl
      have b2 : w6.cell? ⟨w4.heap.size, 2, none⟩ = some (.int .i64 0) := (B6.cell _).trans rfl
      have c0 : w6.cell? ⟨w5.heap.size, 0, none⟩ = some (.int .i64 x1) := (X6.cell _).trans rfl
      have c1 : w6.cell? ⟨w5.heap.size, 1, none⟩ = some (.int .i64 x2) := (X6.cell _).trans rfl
      have c2 : w6.cell? ⟨w5.heap.size, 2, none⟩ = some (.int .i64 x3) := (X6.cell _).trans rfl
      have la := A6.lt
      have lb := B6.lt
      have lx := X6.lt
      clear A6 B6 X6
      go_wp2_with fail
      go_region_held3 (fun w' => Kept w6 w' ∧ (∀ b o, b < w6.heap.size → w'.cell? ⟨b, o, none⟩ = w6.cell? ⟨b, o, none⟩)) (exact held_of (by (repeat (first | with_reducible assumption | with_reducible exact Kept.refl _ | with_reducible apply Kept.drew | with_reducible apply Kept.alloc | (with_reducible refine Kept.setCell ?_ (by first | exact Nat.le_refl _ | (dsimp only; omega)) _))))) (first
        | (go_at_call 10; (with_reducible refine (KD.out _ (K6.out.trans ?_)).mono ?_); (· (repeat (first | with_reducible assumption | with_reducible exact Kept.refl _ | with_reducible apply Kept.drew | with_reducible apply Kept.alloc | (with_reducible refine Kept.setCell ?_ (by first | exact Nat.le_refl _ | (dsimp only; omega)) _)))); rintro e w7 ⟨rfl, hk7⟩; have kk7 : Kept w6 w7 := Kept.trans (by (repeat (first | with_reducible assumption | with_reducible exact Kept.refl _ | with_reducible apply Kept.drew | with_reducible apply Kept.alloc | (with_reducible refine Kept.setCell ?_ (by first | exact Nat.le_refl _ | (dsimp only; omega)) _)))) hk7)
        | (go_at_call 16; (with_reducible refine (KW.out _).mono ?_); rintro e w8 ⟨rfl, rfl⟩))
      all_goals go_wp2_with fail
      all_goals go_ret
      all_goals exact ⟨rfl, K6.out.trans kk7⟩
    · have he1 : e = 1 := by
        rcases hfd with ⟨_, ⟨_, _, _, _, rfl⟩ | ⟨_, _, rfl⟩⟩ | ⟨h, _⟩
        · rfl
        · exact absurd rfl he
        · exact absurd (.inr rfl) h
      subst he1
      rw [show ansT 1 x1 x2 x3 = ⟨#[]⟩ from rfl] at KB KC
      clear hr hfd hb hz hcv a1 a2 a3 e0 hf hT
      generalize dmo (easI 1 y) = m1 at *
      generalize dda (easI 1 y) = m2 at *
      go_enter Tryz.func4, Tryz.ntmps4
      go_wp2_with fail
      go_at_call 8
      refine KA.out.mono ?_
      rintro e w1 ⟨rfl, hk1⟩
      have K1 := Lib.hid hk1
      clear hk1 KA
      go_wp2_with fail
      go_at_call 13
      refine (KE.out _ K1.out).mono ?_
      rintro e w2 ⟨rfl, hk2⟩
      have K2 := Lib.hid (K1.out.trans hk2)
      clear hk2 KE K1
      go_wp2_with fail
      go_at_call 12
      refine (KC.out _ (K2.out.alloc _)).mono ?_
      rintro e w3 ⟨rfl, hk3⟩
      have K3 := Lib.hid ((K2.out.alloc _).trans hk3)
      clear hk3 KC K2
      go_wp2_with fail
      go_at_call 12
      refine (KB.out _ (K3.out.alloc _)).mono ?_
      rintro e w4 ⟨rfl, hk4⟩
      have K4 := Lib.hid ((K3.out.alloc _).trans hk4)
      have A4 := Lib.hid (((Blk.new w3 #[.string ⟨#[]⟩, .int .i64 0, .int .i64 1] 25).kept hk4).alloc (.cells #[.string ⟨#[]⟩, .int .i64 0, .int .i64 1] 25))
      have B4 := Lib.hid (Blk.new w4 #[.string ⟨#[]⟩, .int .i64 0, .int .i64 1] 25)
      clear hk4 KB K3
      go_wp2_with fail
      go_at_call 14
      refine (KO.out _ (K4.out.alloc _)).mono ?_
      rintro e w5 ⟨rfl, hk5⟩
      have K5 := Lib.hid ((K4.out.alloc _).trans hk5)
      have A5 := A4.out.kept hk5
      have B5 := B4.out.kept hk5
      clear hk5 KO K4 A4 B4
      have a0 : w5.cell? ⟨w3.heap.size, 0, none⟩ = some (.string ⟨#[]⟩) := (A5.cell _).trans rfl
      have a1 : w5.cell? ⟨w3.heap.size, 1, none⟩ = some (.int .i64 0) := (A5.cell _).trans rfl
      have a2 : w5.cell? ⟨w3.heap.size, 2, none⟩ = some (.int .i64 1) := (A5.cell _).trans rfl
      have b0 : w5.cell? ⟨w4.heap.size, 0, none⟩ = some (.string ⟨#[]⟩) := (B5.cell _).trans rfl
      have b1 : w5.cell? ⟨w4.heap.size, 1, none⟩ = some (.int .i64 0) := (B5.cell _).trans rfl
      have b2 : w5.cell? ⟨w4.heap.size, 2, none⟩ = some (.int .i64 1) := (B5.cell _).trans rfl
      have la := A5.lt
      have lb := B5.lt
      have HA := Lib.hid A5
      have HB := Lib.hid B5
      clear A5 B5
      go_wp2_with fail
      go_ret
      exact ⟨rfl, K5.out.alloc _⟩
  · obtain ⟨a1, a2, a3⟩ := ed_no 1 y (by omega)
    rw [a1, a2, a3, e0] at KE
    obtain ⟨_, rfl, rfl, rfl, he⟩ | ⟨g, _⟩ := id hr
    · rw [e0] at he
      subst he
      have hcv : CvRel 0 0 0 1 2 0 0 0 (cE 1 0 0 0) := .inr (.inl ⟨.inr rfl, by decide, rfl, rfl, rfl, rfl⟩)
      have KB := Lib.hid (fun w' (q : Kept w w') => ask_ort y 0 0 0 1 w' (hT.kept q) hr (by omega))
      have KC := Lib.hid (fun w' (q : Kept w w') => ask_con 1 0 0 0 0 0 0 (cE 1 0 0 0) w' (hT.kept q) (by omega) hcv (by omega))
      rw [show ansT 1 0 0 0 = ⟨#[]⟩ from rfl] at KB
      rw [show ansT (cE 1 0 0 0) 0 0 0 = ⟨#[]⟩ from rfl, show cE 1 0 0 0 = 1 from rfl] at KC
      clear hr hcv a1 a2 a3 e0 hf hT
      go_enter Tryz.func4, Tryz.ntmps4
      go_wp2_with fail
      go_at_call 8
      refine KA.out.mono ?_
      rintro e w1 ⟨rfl, hk1⟩
      have K1 := Lib.hid hk1
      clear hk1 KA
      go_wp2_with fail
      go_at_call 13
      refine (KE.out _ K1.out).mono ?_
      rintro e w2 ⟨rfl, hk2⟩
      have K2 := Lib.hid (K1.out.trans hk2)
      clear hk2 KE K1
      go_wp2_with fail
      go_at_call 12
      refine (KC.out _ (K2.out.alloc _)).mono ?_
      rintro e w3 ⟨rfl, hk3⟩
      have K3 := Lib.hid ((K2.out.alloc _).trans hk3)
      clear hk3 KC K2
      go_wp2_with fail
      go_at_call 12
      refine (KB.out _ (K3.out.alloc _)).mono ?_
      rintro e w4 ⟨rfl, hk4⟩
      have K4 := Lib.hid ((K3.out.alloc _).trans hk4)
      have A4 := Lib.hid (((Blk.new w3 #[.string ⟨#[]⟩, .int .i64 0, .int .i64 1] 25).kept hk4).alloc (.cells #[.string ⟨#[]⟩, .int .i64 0, .int .i64 1] 25))
      have B4 := Lib.hid (Blk.new w4 #[.string ⟨#[]⟩, .int .i64 0, .int .i64 1] 25)
      clear hk4 KB K3
      go_wp2_with fail
      go_at_call 14
      refine (KO.out _ (K4.out.alloc _)).mono ?_
      rintro e w5 ⟨rfl, hk5⟩
      have K5 := Lib.hid ((K4.out.alloc _).trans hk5)
      have A5 := A4.out.kept hk5
      have B5 := B4.out.kept hk5
      clear hk5 KO K4 A4 B4
      have a0 : w5.cell? ⟨w3.heap.size, 0, none⟩ = some (.string ⟨#[]⟩) := (A5.cell _).trans rfl
      have a1 : w5.cell? ⟨w3.heap.size, 1, none⟩ = some (.int .i64 0) := (A5.cell _).trans rfl
      have a2 : w5.cell? ⟨w3.heap.size, 2, none⟩ = some (.int .i64 1) := (A5.cell _).trans rfl
      have b0 : w5.cell? ⟨w4.heap.size, 0, none⟩ = some (.string ⟨#[]⟩) := (B5.cell _).trans rfl
      have b1 : w5.cell? ⟨w4.heap.size, 1, none⟩ = some (.int .i64 0) := (B5.cell _).trans rfl
      have b2 : w5.cell? ⟨w4.heap.size, 2, none⟩ = some (.int .i64 1) := (B5.cell _).trans rfl
      have la := A5.lt
      have lb := B5.lt
      have HA := Lib.hid A5
      have HB := Lib.hid B5
      clear A5 B5
      go_wp2_with fail
      go_ret
      exact ⟨rfl, K5.out.alloc _⟩
    · omega
  · omega
end Go.Proofs.YtblaphkaklocfaaGreatDoor
namespace Go.Proofs.YtblaphkaklocfaaGreatDoor
open Go.ChangeShapes Go.WideShapes Go.ChangeAt Go.RowKit
set_option maxHeartbeats 4000000
set_option maxRecDepth 20000

set_option maxRecDepth 100000 in
theorem WholeOrthodox_contract (H : Type) (enc : TypeId × Value → H) (W : World) (base : Nat) (args : Array Value) (ds gs : List (DataW H)) (before : List MemPlace)
    (hval : ∀ (j : Nat) t v, Tryz.f4.params[j]? = some t → args[j]? = some v → Value.okWide Tryz.prog W .any base t v)
    (hW : DataW.Whole enc Tryz.prog Tryz.f4.params.toList Rows.wholeOrthodoxSpec.vars false W args.toList ds gs before) (hL : laidMetH Tryz.prog Rows.wholeOrthodoxRow.laid W) :
    Calls Tryz.prog 4 args W fun e W' => ∃ v, e = .returned v ∧ Rows.wholeOrthodoxSpec.post enc Tryz.prog Tryz.f4 false true false false W args v W' := by
  have hW' := hW
  obtain ⟨p, q, hA0, hV, rfl, hfz, hnd⟩ := hW
  have hA : DataW.TrodAll enc Tryz.prog W 0 (fun _ => true) true Tryz.f4.params.toList args.toList ds p := hA0
  rw [Tryz.params4] at hA hval
  obtain ⟨v0, vs0, d0, ds0, p0, q0, hargs, rfl, rfl, h0, r0⟩ := trodAll_cons hA
  obtain ⟨rfl, rfl, rfl⟩ := trodAll_nil r0
  obtain rfl : args = #[v0] := by cases args; simp_all
  obtain ⟨rfl, rfl⟩ := trodVars_none hV
  obtain ⟨a0, rfl, rfl, rfl, w0⟩ := open_int Tryz.underlying3 (hval 0 3 v0 rfl rfl) h0
  clear hA0
  simp only [List.append_nil] at hW'
  refine (WholeOrthodox_walk a0 (wf_bounds w0) W (tab_of hL)).mono fun e W' ⟨he, hg⟩ => ?_
  subst he
  exact ⟨_, rfl, post_of_kept (pa := []) (pv := []) hW' (fun _ _ _ => (trodAll_cons_mk (shut_bool Tryz.underlying4 _) trodAll_mk0)) (fun sp _ => (trodAll_cons_mk (shut_int Tryz.underlying3 w0) trodAll_mk0)) (fun _ _ => rfl) rfl
    hg (ok_one (by kernel_rfl) rfl (okWide_bool_mk Tryz.underlying4 _))⟩
theorem WholeOrthodox_laid (os : Os) : laidMet Tryz.prog Rows.wholeOrthodoxRow.laid ((laidWorld os).forCall (fun _ _ => 0) ⟨#[], #[.int .i64 0], []⟩).memory :=
  laidMet_of_run' 8 (by kernel_rfl) (by kernel_rfl)
theorem WholeOrthodox_reads (os : Os) {H : Type} (enc : TypeId × Value → H) : ∃ places, DataW.whole enc Tryz.prog ((laidWorld os).forCall (fun _ _ => 0) ⟨#[], #[.int .i64 0], []⟩).memory Tryz.f4.params.toList Rows.wholeOrthodoxSpec.vars false (#[.int .i64 0] : Array Value).toList 8 = some ([.lit (.int .i64 0)], [], places) :=
  ⟨[], by kernel_rfl⟩
set_option maxRecDepth 100000 in
theorem WholeOrthodox_lifted (os : Os) (started : os.Started) (H : Type) (enc : TypeId × Value → H) (F : Stop.Interp) :
    ReturnsInHanded {} Tryz.checked os 4 .any ((OpenSpec.ofChange Rows.wholeOrthodoxSpec).preRow enc Tryz.prog Tryz.f4 Rows.wholeOrthodoxRow.domain false Rows.wholeOrthodoxRow.laid) (((OpenSpec.ofChange Rows.wholeOrthodoxSpec).at F).post enc Tryz.prog Tryz.f4 false true false false) := by
  obtain ⟨places, hx⟩ := WholeOrthodox_reads os enc
  refine returnsInHanded_of_row (C := Tryz.checked) (s := OpenSpec.ofChange Rows.wholeOrthodoxSpec) own_knob started (by kernel_rfl) Tryz.func4
    (witness_row_at (enc := enc) (C := Tryz.checked) false (laidWorld os) #[.int .i64 0] rfl (by kernel_rfl) (by kernel_rfl) (by kernel_rfl)
      (OpenSpec.preRow_of_cond 8 hx (by kernel_rfl) (fun k hk => by cases hk) (by kernel_rfl) (WholeOrthodox_laid os))) ?_
  intro W base args ds gs before hval hW _ _ _ hL _ _
  exact WholeOrthodox_contract H enc W base args ds gs before hval hW hL
theorem WholeOrthodox_closed : joinedFacts Tryz.pinned.checked.prog 4 Tryz.f4 (OpenSpec.ofChange Rows.wholeOrthodoxSpec).bare Rows.wholeOrthodoxRow = true := by
  unfold joinedFacts
  simp only [Bool.and_eq_true]
  repeat' apply And.intro
  all_goals (first | with_reducible exact head_enter | (rw [head_make]; rfl) | (rw [head_final]; rfl) | (as_aux_lemma => kernel_rfl))
theorem WholeOrthodox_said : Rows.WholeOrthodoxSaid :=
  OpenClaim.holds_of_cond 4 Tryz.f4 rfl rfl rfl rfl rfl rfl rfl ⟨rfl, rfl, rfl, rfl, rfl⟩ rfl rfl rfl rfl rfl (by kernel_rfl) Tryz.func4 WholeOrthodox_closed
    (of_decide_eq_true (by kernel_rfl)) (by unfold Func.isWrapper; first | (rw [if_pos (by decide +kernel)]; kernel_rfl) | (rw [if_neg (by decide +kernel)]; exact ⟨rfl, rfl⟩))
    (fun os started H enc _ F => by rw [OpenClaim.pre_eq_preRow]; exact WholeOrthodox_lifted os started H enc F)
theorem WholeOrthodox_plain (f : FuncId) (fn : Func) (hf : Tryz.pinned.checked.prog.funcNamed "computus/computustop.WholeOrthodox" = some f) (hfn : Tryz.pinned.checked.prog.funcs[f]? = some fn) :
    true = Tryz.pinned.checked.prog.looks [] ∧ ∀ (j : Nat) t, fn.params[j]? = some t → Tryz.pinned.checked.prog.wantsStandIn t = false := by
  obtain rfl : f = 4 := Option.some.inj ((show Tryz.prog.funcNamed "computus/computustop.WholeOrthodox" = some 4 by kernel_rfl).symm.trans hf) |>.symm
  obtain rfl : fn = Tryz.f4 := (Option.some.inj (Tryz.func4.symm.trans hfn)).symm
  refine ⟨by kernel_rfl, fun j t ht => ?_⟩
  rw [Tryz.params4] at ht
  have hm : t ∈ [3] := by simpa using Array.mem_of_getElem? ht
  have hall : ([3].all fun u => !Tryz.prog.wantsStandIn u) = true := by kernel_rfl
  exact (show Tryz.prog.wantsStandIn t = false by simpa using List.all_eq_true.1 hall t hm)
theorem WholeOrthodox_proved : Rows.WholeOrthodoxCardSaid :=
  Claim7.holds_tied_plain_at .later [] _ _ _ _ WholeOrthodox_said (fun _ h => by cases h) (by kernel_rfl) (fun _ h => by cases h) wholeOrthodox_row_tie rfl ⟨rfl, rfl⟩ (mainIs_of io_list (by kernel_rfl)) rfl WholeOrthodox_plain (by kernel_rfl)
#print axioms WholeOrthodox_proved
end Go.Proofs.YtblaphkaklocfaaGreatDoor

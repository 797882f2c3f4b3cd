/- 'Rows.CivilMatchesReferenceCardSaid': for all calendars, dates and numbers, all functions of package civil return what the reference returns. No condition but that julian.lengths lies as the program's text lays it, which the card ties. -/
import Derived.Test.YtcfgiboknkkheaaDoorCivAw
set_option linter.unusedSimpArgs false
set_option linter.unusedVariables false
set_option linter.unusedSectionVars false
namespace Go.Proofs.YtcfgiboknkkheaaDoor
open Go.ChangeShapes Go.WideShapes Go.ChangeAt Go.RowKit Go.Joins
set_option maxHeartbeats 4000000

set_option maxRecDepth 100000 in
set_option maxHeartbeats 8000000 in
theorem CivilMatchesReference_walk (c t y m d n z q : Int) (_bc : -9223372036854775808 ≤ c ∧ c ≤ 9223372036854775807) (_bt : -9223372036854775808 ≤ t ∧ t ≤ 9223372036854775807) (_by : -9223372036854775808 ≤ y ∧ y ≤ 9223372036854775807) (_bm : -9223372036854775808 ≤ m ∧ m ≤ 9223372036854775807) (_bd : -9223372036854775808 ≤ d ∧ d ≤ 9223372036854775807) (_bn : -9223372036854775808 ≤ n ∧ n ≤ 9223372036854775807) (_bz : -9223372036854775808 ≤ z ∧ z ≤ 9223372036854775807) (_bq : -9223372036854775808 ≤ q ∧ q ≤ 9223372036854775807) (w : World) (hT : Tab w) :
    Calls Tryd.prog 12 #[.int .i64 c, .int .i64 t, .agg #[.int .i64 y, .int .i64 m, .int .i64 d], .int .i64 n, .int .i64 z, .int .i64 q] w fun e w' => e = .returned (.bool true) ∧ Kept w w' := by
  have KQ := Lib.hid _bq
  clear _bc _bt _by _bm _bd _bn _bz _bq
  have KT := Lib.hid (fun w' (k : Kept w w') => hT.kept k)
  clear hT
  obtain ⟨f1, f2, f3, f4, hf⟩ := fdC_some c n
  have HF := Lib.hid hf
  obtain ⟨v1, v2, v3, v4, hv⟩ := cv_some y m d c t
  have HV := Lib.hid hv
  obtain ⟨p1, p2, p3, p4, hp⟩ := fy_some c z q
  have HP := Lib.hid hp
  obtain ⟨s1, s2, s3, s4, hs⟩ := sh_some c y m d q
  have HS := Lib.hid hs
  obtain ⟨k1, k2⟩ := cN_bounds c y m d
  clear hf hv hp hs
  by_cases hz : cE c y m d = 0
  · have KW := Lib.hid (fun w hT => Weekday_all c y m d w hT)
    rw [show wdN c y m d = cN c y m d % 7 from by unfold wdN; rw [if_pos hz], hz] at KW
    have KL := Lib.hid (fun w => refToDay_all c y m d w)
    rw [hz] at KL
    clear hz
    go_enter Tryd.func12, Tryd.ntmps12
    go_wp2_with fail
    (go_at_call 13; refine (Civ_awake _ (KT.out _ (by repeat (first | with_reducible exact Kept.refl _ | with_reducible assumption | with_reducible refine Kept.drew ?_ | with_reducible refine Kept.drewN ?_ _ | with_reducible refine Kept.alloc ?_ _ | (with_reducible refine Kept.setCell ?_ (by first | exact Nat.le_refl _ | omega | (simp; done) | (simp; omega)) _) | (with_reducible refine Kept.trans ?_ (by with_reducible assumption)))))).mono ?_; rintro e w1 ⟨rfl, hk1⟩)
    have Dd1 := Lib.hid (DateAt.kept (show DateAt _ (w.heap.size) y m d from by constructor <;> go_simp) hk1)
    obtain ⟨c0d1, c1d1, c2d1, g0d1, g1d1, g2d1⟩ := Dd1.out
    have hz1 : w.heap.size < w1.heap.size := lt_cell c0d1
    go_wp2_with fail
    (go_at_call 31; refine (CToDay_all _ _ _ _ _ (KT.out _ (by repeat (first | with_reducible exact Kept.refl _ | with_reducible assumption | with_reducible refine Kept.drew ?_ | with_reducible refine Kept.drewN ?_ _ | with_reducible refine Kept.alloc ?_ _ | (with_reducible refine Kept.setCell ?_ (by first | exact Nat.le_refl _ | omega | (simp; done) | (simp; omega)) _) | (with_reducible refine Kept.trans ?_ (by with_reducible assumption)))))).mono ?_; rintro e w2 ⟨rfl, hk2⟩)
    clear c0d1 c1d1 c2d1 g0d1 g1d1 g2d1
    have Dd2 := Lib.hid (DateAt.kept (Dd1.out) hk2)
    obtain ⟨c0d2, c1d2, c2d2, g0d2, g1d2, g2d2⟩ := Dd2.out
    have hz2 : w.heap.size < w2.heap.size := lt_cell c0d2
    go_wp2_with fail
    (go_at_call 26; refine (refToDay_all _ _ _ _ _).mono ?_; rintro e w3 ⟨rfl, hk3⟩)
    clear c0d2 c1d2 c2d2 g0d2 g1d2 g2d2
    have Dd3 := Lib.hid (DateAt.kept (Dd2.out) hk3)
    obtain ⟨c0d3, c1d3, c2d3, g0d3, g1d3, g2d3⟩ := Dd3.out
    have hz3 : w.heap.size < w3.heap.size := lt_cell c0d3
    go_wp2_with fail
    (go_at_call 41; refine (CFromDay_all _ _ _ _ _ _ _ (KT.out _ (by repeat (first | with_reducible exact Kept.refl _ | with_reducible assumption | with_reducible refine Kept.drew ?_ | with_reducible refine Kept.drewN ?_ _ | with_reducible refine Kept.alloc ?_ _ | (with_reducible refine Kept.setCell ?_ (by first | exact Nat.le_refl _ | omega | (simp; done) | (simp; omega)) _) | (with_reducible refine Kept.trans ?_ (by with_reducible assumption))))) HF.out).mono ?_; rintro e w4 ⟨rfl, hk4⟩)
    clear c0d3 c1d3 c2d3 g0d3 g1d3 g2d3
    have Dd4 := Lib.hid (DateAt.kept (Dd3.out) hk4)
    obtain ⟨c0d4, c1d4, c2d4, g0d4, g1d4, g2d4⟩ := Dd4.out
    have hz4 : w.heap.size < w4.heap.size := lt_cell c0d4
    go_wp2_with fail
    (go_at_call 42; refine (refFromDay_all _ _ _ _ _ _ _ HF.out).mono ?_; rintro e w5 ⟨rfl, hk5⟩)
    clear c0d4 c1d4 c2d4 g0d4 g1d4 g2d4
    have Dd5 := Lib.hid (DateAt.kept ((Dd4.out).kept (Kept.alloc (Kept.refl _) _)) hk5)
    have Dx5 := Lib.hid (DateAt.kept (show DateAt _ (w4.heap.size) f1 f2 f3 from by constructor <;> go_simp) hk5)
    obtain ⟨c0d5, c1d5, c2d5, g0d5, g1d5, g2d5⟩ := Dd5.out
    obtain ⟨c0x5, c1x5, c2x5, g0x5, g1x5, g2x5⟩ := Dx5.out
    have hz5 : w.heap.size < w5.heap.size := lt_cell c0d5
    have hx5 : w4.heap.size < w5.heap.size := lt_cell c0x5
    go_wp2_with fail
    (go_at_call 17; refine (Convert_all _ _ _ _ _ _ _ _ _ _ (KT.out _ (by repeat (first | with_reducible exact Kept.refl _ | with_reducible assumption | with_reducible refine Kept.drew ?_ | with_reducible refine Kept.drewN ?_ _ | with_reducible refine Kept.alloc ?_ _ | (with_reducible refine Kept.setCell ?_ (by first | exact Nat.le_refl _ | omega | (simp; done) | (simp; omega)) _) | (with_reducible refine Kept.trans ?_ (by with_reducible assumption))))) HV.out).mono ?_; rintro e w6 ⟨rfl, hk6⟩)
    clear c0d5 c1d5 c2d5 g0d5 g1d5 g2d5
    clear c0x5 c1x5 c2x5 g0x5 g1x5 g2x5
    have Dd6 := Lib.hid (DateAt.kept ((Dd5.out).kept (Kept.alloc (Kept.refl _) _)) hk6)
    have Dx6 := Lib.hid (DateAt.kept ((Dx5.out).kept (Kept.alloc (Kept.refl _) _)) hk6)
    have Dz6 := Lib.hid (DateAt.kept (show DateAt _ (w5.heap.size) f1 f2 f3 from by constructor <;> go_simp) hk6)
    obtain ⟨c0d6, c1d6, c2d6, g0d6, g1d6, g2d6⟩ := Dd6.out
    obtain ⟨c0x6, c1x6, c2x6, g0x6, g1x6, g2x6⟩ := Dx6.out
    obtain ⟨c0z6, c1z6, c2z6, g0z6, g1z6, g2z6⟩ := Dz6.out
    have hz6 : w.heap.size < w6.heap.size := lt_cell c0d6
    have hx6 : w4.heap.size < w6.heap.size := lt_cell c0x6
    have hy6 : w5.heap.size < w6.heap.size := lt_cell c0z6
    go_wp2_with fail
    (go_at_call 43; refine (refConvert_all _ _ _ _ _ _ _ _ _ _ HV.out (Decidable.em _)).mono ?_; rintro e w7 ⟨rfl, hk7⟩)
    clear c0d6 c1d6 c2d6 g0d6 g1d6 g2d6
    clear c0x6 c1x6 c2x6 g0x6 g1x6 g2x6
    clear c0z6 c1z6 c2z6 g0z6 g1z6 g2z6
    have Dd7 := Lib.hid (DateAt.kept ((Dd6.out).other (by omega)) hk7)
    have Dx7 := Lib.hid (DateAt.kept ((Dx6.out).set _ _ _) hk7)
    have Dz7 := Lib.hid (DateAt.kept ((Dz6.out).other (by omega)) hk7)
    obtain ⟨c0d7, c1d7, c2d7, g0d7, g1d7, g2d7⟩ := Dd7.out
    obtain ⟨c0x7, c1x7, c2x7, g0x7, g1x7, g2x7⟩ := Dx7.out
    obtain ⟨c0z7, c1z7, c2z7, g0z7, g1z7, g2z7⟩ := Dz7.out
    have hz7 : w.heap.size < w7.heap.size := lt_cell c0d7
    have hx7 : w4.heap.size < w7.heap.size := lt_cell c0x7
    have hy7 : w5.heap.size < w7.heap.size := lt_cell c0z7
    go_wp2_with fail
    (go_at_call 14; refine (OfYear_all _ _ _ _ _ (KT.out _ (by repeat (first | with_reducible exact Kept.refl _ | with_reducible assumption | with_reducible refine Kept.drew ?_ | with_reducible refine Kept.drewN ?_ _ | with_reducible refine Kept.alloc ?_ _ | (with_reducible refine Kept.setCell ?_ (by first | exact Nat.le_refl _ | omega | (simp; done) | (simp; omega)) _) | (with_reducible refine Kept.trans ?_ (by with_reducible assumption)))))).mono ?_; rintro e w8 ⟨rfl, hk8⟩)
    clear c0d7 c1d7 c2d7 g0d7 g1d7 g2d7
    clear c0x7 c1x7 c2x7 g0x7 g1x7 g2x7
    clear c0z7 c1z7 c2z7 g0z7 g1z7 g2z7
    have Dd8 := Lib.hid (DateAt.kept ((Dd7.out).other (by omega)) hk8)
    have Dx8 := Lib.hid (DateAt.kept ((Dx7.out).other (by omega)) hk8)
    have Dz8 := Lib.hid (DateAt.kept ((Dz7.out).set _ _ _) hk8)
    obtain ⟨c0d8, c1d8, c2d8, g0d8, g1d8, g2d8⟩ := Dd8.out
    obtain ⟨c0x8, c1x8, c2x8, g0x8, g1x8, g2x8⟩ := Dx8.out
    obtain ⟨c0z8, c1z8, c2z8, g0z8, g1z8, g2z8⟩ := Dz8.out
    have hz8 : w.heap.size < w8.heap.size := lt_cell c0d8
    have hx8 : w4.heap.size < w8.heap.size := lt_cell c0x8
    have hy8 : w5.heap.size < w8.heap.size := lt_cell c0z8
    go_wp2_with fail
    (go_at_call 28; refine (refOfYear_all _ _ _ _ _).mono ?_; rintro e w9 ⟨rfl, hk9⟩)
    clear c0d8 c1d8 c2d8 g0d8 g1d8 g2d8
    clear c0x8 c1x8 c2x8 g0x8 g1x8 g2x8
    clear c0z8 c1z8 c2z8 g0z8 g1z8 g2z8
    have Dd9 := Lib.hid (DateAt.kept (Dd8.out) hk9)
    have Dx9 := Lib.hid (DateAt.kept (Dx8.out) hk9)
    have Dz9 := Lib.hid (DateAt.kept (Dz8.out) hk9)
    obtain ⟨c0d9, c1d9, c2d9, g0d9, g1d9, g2d9⟩ := Dd9.out
    obtain ⟨c0x9, c1x9, c2x9, g0x9, g1x9, g2x9⟩ := Dx9.out
    obtain ⟨c0z9, c1z9, c2z9, g0z9, g1z9, g2z9⟩ := Dz9.out
    have hz9 : w.heap.size < w9.heap.size := lt_cell c0d9
    have hx9 : w4.heap.size < w9.heap.size := lt_cell c0x9
    have hy9 : w5.heap.size < w9.heap.size := lt_cell c0z9
    go_wp2_with fail
    (go_at_call 15; refine (FromYear_all _ _ _ _ _ _ _ _ (KT.out _ (by repeat (first | with_reducible exact Kept.refl _ | with_reducible assumption | with_reducible refine Kept.drew ?_ | with_reducible refine Kept.drewN ?_ _ | with_reducible refine Kept.alloc ?_ _ | (with_reducible refine Kept.setCell ?_ (by first | exact Nat.le_refl _ | omega | (simp; done) | (simp; omega)) _) | (with_reducible refine Kept.trans ?_ (by with_reducible assumption))))) HP.out KQ.out).mono ?_; rintro e w10 ⟨rfl, hk10⟩)
    clear c0d9 c1d9 c2d9 g0d9 g1d9 g2d9
    clear c0x9 c1x9 c2x9 g0x9 g1x9 g2x9
    clear c0z9 c1z9 c2z9 g0z9 g1z9 g2z9
    have Dd10 := Lib.hid (DateAt.kept (Dd9.out) hk10)
    have Dx10 := Lib.hid (DateAt.kept (Dx9.out) hk10)
    have Dz10 := Lib.hid (DateAt.kept (Dz9.out) hk10)
    obtain ⟨c0d10, c1d10, c2d10, g0d10, g1d10, g2d10⟩ := Dd10.out
    obtain ⟨c0x10, c1x10, c2x10, g0x10, g1x10, g2x10⟩ := Dx10.out
    obtain ⟨c0z10, c1z10, c2z10, g0z10, g1z10, g2z10⟩ := Dz10.out
    have hz10 : w.heap.size < w10.heap.size := lt_cell c0d10
    have hx10 : w4.heap.size < w10.heap.size := lt_cell c0x10
    have hy10 : w5.heap.size < w10.heap.size := lt_cell c0z10
    go_wp2_with fail
    (go_at_call 44; refine (refFromYear_all _ _ _ _ _ _ _ _ HP.out KQ.out).mono ?_; rintro e w11 ⟨rfl, hk11⟩)
    clear c0d10 c1d10 c2d10 g0d10 g1d10 g2d10
    clear c0x10 c1x10 c2x10 g0x10 g1x10 g2x10
    clear c0z10 c1z10 c2z10 g0z10 g1z10 g2z10
    have Dd11 := Lib.hid (DateAt.kept ((Dd10.out).other (by omega)) hk11)
    have Dx11 := Lib.hid (DateAt.kept ((Dx10.out).set _ _ _) hk11)
    have Dz11 := Lib.hid (DateAt.kept ((Dz10.out).other (by omega)) hk11)
    obtain ⟨c0d11, c1d11, c2d11, g0d11, g1d11, g2d11⟩ := Dd11.out
    obtain ⟨c0x11, c1x11, c2x11, g0x11, g1x11, g2x11⟩ := Dx11.out
    obtain ⟨c0z11, c1z11, c2z11, g0z11, g1z11, g2z11⟩ := Dz11.out
    have hz11 : w.heap.size < w11.heap.size := lt_cell c0d11
    have hx11 : w4.heap.size < w11.heap.size := lt_cell c0x11
    have hy11 : w5.heap.size < w11.heap.size := lt_cell c0z11
    go_wp2_with fail
    (go_at_call 16; refine (YearLength_all _ _ _ (KT.out _ (by repeat (first | with_reducible exact Kept.refl _ | with_reducible assumption | with_reducible refine Kept.drew ?_ | with_reducible refine Kept.drewN ?_ _ | with_reducible refine Kept.alloc ?_ _ | (with_reducible refine Kept.setCell ?_ (by first | exact Nat.le_refl _ | omega | (simp; done) | (simp; omega)) _) | (with_reducible refine Kept.trans ?_ (by with_reducible assumption)))))).mono ?_; rintro e w12 ⟨rfl, hk12⟩)
    clear c0d11 c1d11 c2d11 g0d11 g1d11 g2d11
    clear c0x11 c1x11 c2x11 g0x11 g1x11 g2x11
    clear c0z11 c1z11 c2z11 g0z11 g1z11 g2z11
    have Dd12 := Lib.hid (DateAt.kept ((Dd11.out).other (by omega)) hk12)
    have Dx12 := Lib.hid (DateAt.kept ((Dx11.out).other (by omega)) hk12)
    have Dz12 := Lib.hid (DateAt.kept ((Dz11.out).set _ _ _) hk12)
    obtain ⟨c0d12, c1d12, c2d12, g0d12, g1d12, g2d12⟩ := Dd12.out
    obtain ⟨c0x12, c1x12, c2x12, g0x12, g1x12, g2x12⟩ := Dx12.out
    obtain ⟨c0z12, c1z12, c2z12, g0z12, g1z12, g2z12⟩ := Dz12.out
    have hz12 : w.heap.size < w12.heap.size := lt_cell c0d12
    have hx12 : w4.heap.size < w12.heap.size := lt_cell c0x12
    have hy12 : w5.heap.size < w12.heap.size := lt_cell c0z12
    go_wp2_with fail
    (go_at_call 45; refine (refYearLength_all _ _ _).mono ?_; rintro e w1 ⟨rfl, rfl⟩)
    go_wp2_with fail
    (go_at_call 19; refine (Shift_all _ _ _ _ _ _ _ _ _ _ (KT.out _ (by repeat (first | with_reducible exact Kept.refl _ | with_reducible assumption | with_reducible refine Kept.drew ?_ | with_reducible refine Kept.drewN ?_ _ | with_reducible refine Kept.alloc ?_ _ | (with_reducible refine Kept.setCell ?_ (by first | exact Nat.le_refl _ | omega | (simp; done) | (simp; omega)) _) | (with_reducible refine Kept.trans ?_ (by with_reducible assumption))))) HS.out KQ.out).mono ?_; rintro e w13 ⟨rfl, hk13⟩)
    clear c0d12 c1d12 c2d12 g0d12 g1d12 g2d12
    clear c0x12 c1x12 c2x12 g0x12 g1x12 g2x12
    clear c0z12 c1z12 c2z12 g0z12 g1z12 g2z12
    have Dd13 := Lib.hid (DateAt.kept (Dd12.out) hk13)
    have Dx13 := Lib.hid (DateAt.kept (Dx12.out) hk13)
    have Dz13 := Lib.hid (DateAt.kept (Dz12.out) hk13)
    obtain ⟨c0d13, c1d13, c2d13, g0d13, g1d13, g2d13⟩ := Dd13.out
    obtain ⟨c0x13, c1x13, c2x13, g0x13, g1x13, g2x13⟩ := Dx13.out
    obtain ⟨c0z13, c1z13, c2z13, g0z13, g1z13, g2z13⟩ := Dz13.out
    have hz13 : w.heap.size < w13.heap.size := lt_cell c0d13
    have hx13 : w4.heap.size < w13.heap.size := lt_cell c0x13
    have hy13 : w5.heap.size < w13.heap.size := lt_cell c0z13
    go_wp2_with fail
    (go_at_call 46; refine (refShift_all _ _ _ _ _ _ _ _ _ _ HS.out KQ.out).mono ?_; rintro e w14 ⟨rfl, hk14⟩)
    clear c0d13 c1d13 c2d13 g0d13 g1d13 g2d13
    clear c0x13 c1x13 c2x13 g0x13 g1x13 g2x13
    clear c0z13 c1z13 c2z13 g0z13 g1z13 g2z13
    have Dd14 := Lib.hid (DateAt.kept ((Dd13.out).other (by omega)) hk14)
    have Dx14 := Lib.hid (DateAt.kept ((Dx13.out).set _ _ _) hk14)
    have Dz14 := Lib.hid (DateAt.kept ((Dz13.out).other (by omega)) hk14)
    obtain ⟨c0d14, c1d14, c2d14, g0d14, g1d14, g2d14⟩ := Dd14.out
    obtain ⟨c0x14, c1x14, c2x14, g0x14, g1x14, g2x14⟩ := Dx14.out
    obtain ⟨c0z14, c1z14, c2z14, g0z14, g1z14, g2z14⟩ := Dz14.out
    have hz14 : w.heap.size < w14.heap.size := lt_cell c0d14
    have hx14 : w4.heap.size < w14.heap.size := lt_cell c0x14
    have hy14 : w5.heap.size < w14.heap.size := lt_cell c0z14
    go_wp2_with fail
    (go_at_call 32; refine (KW.out _ (KT.out _ (by repeat (first | with_reducible exact Kept.refl _ | with_reducible assumption | with_reducible refine Kept.drew ?_ | with_reducible refine Kept.drewN ?_ _ | with_reducible refine Kept.alloc ?_ _ | (with_reducible refine Kept.setCell ?_ (by first | exact Nat.le_refl _ | omega | (simp; done) | (simp; omega)) _) | (with_reducible refine Kept.trans ?_ (by with_reducible assumption)))))).mono ?_; rintro e w15 ⟨rfl, hk15⟩)
    clear c0d14 c1d14 c2d14 g0d14 g1d14 g2d14
    clear c0x14 c1x14 c2x14 g0x14 g1x14 g2x14
    clear c0z14 c1z14 c2z14 g0z14 g1z14 g2z14
    have Dd15 := Lib.hid (DateAt.kept ((Dd14.out).other (by omega)) hk15)
    have Dx15 := Lib.hid (DateAt.kept ((Dx14.out).other (by omega)) hk15)
    have Dz15 := Lib.hid (DateAt.kept ((Dz14.out).set _ _ _) hk15)
    obtain ⟨c0d15, c1d15, c2d15, g0d15, g1d15, g2d15⟩ := Dd15.out
    obtain ⟨c0x15, c1x15, c2x15, g0x15, g1x15, g2x15⟩ := Dx15.out
    obtain ⟨c0z15, c1z15, c2z15, g0z15, g1z15, g2z15⟩ := Dz15.out
    have hz15 : w.heap.size < w15.heap.size := lt_cell c0d15
    have hx15 : w4.heap.size < w15.heap.size := lt_cell c0x15
    have hy15 : w5.heap.size < w15.heap.size := lt_cell c0z15
    go_wp2_with fail
    (go_at_call 26; refine (KL.out _).mono ?_; rintro e w16 ⟨rfl, hk16⟩)
    clear c0d15 c1d15 c2d15 g0d15 g1d15 g2d15
    clear c0x15 c1x15 c2x15 g0x15 g1x15 g2x15
    clear c0z15 c1z15 c2z15 g0z15 g1z15 g2z15
    have Dd16 := Lib.hid (DateAt.kept (Dd15.out) hk16)
    have Dx16 := Lib.hid (DateAt.kept (Dx15.out) hk16)
    have Dz16 := Lib.hid (DateAt.kept (Dz15.out) hk16)
    obtain ⟨c0d16, c1d16, c2d16, g0d16, g1d16, g2d16⟩ := Dd16.out
    obtain ⟨c0x16, c1x16, c2x16, g0x16, g1x16, g2x16⟩ := Dx16.out
    obtain ⟨c0z16, c1z16, c2z16, g0z16, g1z16, g2z16⟩ := Dz16.out
    have hz16 : w.heap.size < w16.heap.size := lt_cell c0d16
    have hx16 : w4.heap.size < w16.heap.size := lt_cell c0x16
    have hy16 : w5.heap.size < w16.heap.size := lt_cell c0z16
    go_wp2_with fail
    (go_at_call 29; refine (rWOf_any _ _ (by omega) (by omega)).mono ?_; rintro e w1 ⟨rfl, rfl⟩)
    go_wp2
    go_ret
    exact ⟨rfl, (by repeat (first | with_reducible exact Kept.refl _ | with_reducible assumption | with_reducible refine Kept.drew ?_ | with_reducible refine Kept.drewN ?_ _ | with_reducible refine Kept.alloc ?_ _ | (with_reducible refine Kept.setCell ?_ (by first | exact Nat.le_refl _ | omega | (simp; done) | (simp; omega)) _) | (with_reducible refine Kept.trans ?_ (by with_reducible assumption))))⟩
  · have hE : 1 ≤ cE c y m d := by
      rcases c_cases c y m d with ⟨_, _, _, g⟩ | ⟨_, g, _⟩
      · omega
      · exact g
    have KW := Lib.hid (fun w hT => Weekday_all c y m d w hT)
    rw [show wdN c y m d = 0 from by unfold wdN; rw [if_neg hz]] at KW
    have KL := Lib.hid (fun w => refToDay_all c y m d w)
    clear hz
    go_enter Tryd.func12, Tryd.ntmps12
    go_wp2_with fail
    (go_at_call 13; refine (Civ_awake _ (KT.out _ (by repeat (first | with_reducible exact Kept.refl _ | with_reducible assumption | with_reducible refine Kept.drew ?_ | with_reducible refine Kept.drewN ?_ _ | with_reducible refine Kept.alloc ?_ _ | (with_reducible refine Kept.setCell ?_ (by first | exact Nat.le_refl _ | omega | (simp; done) | (simp; omega)) _) | (with_reducible refine Kept.trans ?_ (by with_reducible assumption)))))).mono ?_; rintro e w1 ⟨rfl, hk1⟩)
    have Dd1 := Lib.hid (DateAt.kept (show DateAt _ (w.heap.size) y m d from by constructor <;> go_simp) hk1)
    obtain ⟨c0d1, c1d1, c2d1, g0d1, g1d1, g2d1⟩ := Dd1.out
    have hz1 : w.heap.size < w1.heap.size := lt_cell c0d1
    go_wp2_with fail
    (go_at_call 31; refine (CToDay_all _ _ _ _ _ (KT.out _ (by repeat (first | with_reducible exact Kept.refl _ | with_reducible assumption | with_reducible refine Kept.drew ?_ | with_reducible refine Kept.drewN ?_ _ | with_reducible refine Kept.alloc ?_ _ | (with_reducible refine Kept.setCell ?_ (by first | exact Nat.le_refl _ | omega | (simp; done) | (simp; omega)) _) | (with_reducible refine Kept.trans ?_ (by with_reducible assumption)))))).mono ?_; rintro e w2 ⟨rfl, hk2⟩)
    clear c0d1 c1d1 c2d1 g0d1 g1d1 g2d1
    have Dd2 := Lib.hid (DateAt.kept (Dd1.out) hk2)
    obtain ⟨c0d2, c1d2, c2d2, g0d2, g1d2, g2d2⟩ := Dd2.out
    have hz2 : w.heap.size < w2.heap.size := lt_cell c0d2
    go_wp2_with fail
    (go_at_call 26; refine (refToDay_all _ _ _ _ _).mono ?_; rintro e w3 ⟨rfl, hk3⟩)
    clear c0d2 c1d2 c2d2 g0d2 g1d2 g2d2
    have Dd3 := Lib.hid (DateAt.kept (Dd2.out) hk3)
    obtain ⟨c0d3, c1d3, c2d3, g0d3, g1d3, g2d3⟩ := Dd3.out
    have hz3 : w.heap.size < w3.heap.size := lt_cell c0d3
    go_wp2_with fail
    (go_at_call 41; refine (CFromDay_all _ _ _ _ _ _ _ (KT.out _ (by repeat (first | with_reducible exact Kept.refl _ | with_reducible assumption | with_reducible refine Kept.drew ?_ | with_reducible refine Kept.drewN ?_ _ | with_reducible refine Kept.alloc ?_ _ | (with_reducible refine Kept.setCell ?_ (by first | exact Nat.le_refl _ | omega | (simp; done) | (simp; omega)) _) | (with_reducible refine Kept.trans ?_ (by with_reducible assumption))))) HF.out).mono ?_; rintro e w4 ⟨rfl, hk4⟩)
    clear c0d3 c1d3 c2d3 g0d3 g1d3 g2d3
    have Dd4 := Lib.hid (DateAt.kept (Dd3.out) hk4)
    obtain ⟨c0d4, c1d4, c2d4, g0d4, g1d4, g2d4⟩ := Dd4.out
    have hz4 : w.heap.size < w4.heap.size := lt_cell c0d4
    go_wp2_with fail
    (go_at_call 42; refine (refFromDay_all _ _ _ _ _ _ _ HF.out).mono ?_; rintro e w5 ⟨rfl, hk5⟩)
    clear c0d4 c1d4 c2d4 g0d4 g1d4 g2d4
    have Dd5 := Lib.hid (DateAt.kept ((Dd4.out).kept (Kept.alloc (Kept.refl _) _)) hk5)
    have Dx5 := Lib.hid (DateAt.kept (show DateAt _ (w4.heap.size) f1 f2 f3 from by constructor <;> go_simp) hk5)
    obtain ⟨c0d5, c1d5, c2d5, g0d5, g1d5, g2d5⟩ := Dd5.out
    obtain ⟨c0x5, c1x5, c2x5, g0x5, g1x5, g2x5⟩ := Dx5.out
    have hz5 : w.heap.size < w5.heap.size := lt_cell c0d5
    have hx5 : w4.heap.size < w5.heap.size := lt_cell c0x5
    go_wp2_with fail
    (go_at_call 17; refine (Convert_all _ _ _ _ _ _ _ _ _ _ (KT.out _ (by repeat (first | with_reducible exact Kept.refl _ | with_reducible assumption | with_reducible refine Kept.drew ?_ | with_reducible refine Kept.drewN ?_ _ | with_reducible refine Kept.alloc ?_ _ | (with_reducible refine Kept.setCell ?_ (by first | exact Nat.le_refl _ | omega | (simp; done) | (simp; omega)) _) | (with_reducible refine Kept.trans ?_ (by with_reducible assumption))))) HV.out).mono ?_; rintro e w6 ⟨rfl, hk6⟩)
    clear c0d5 c1d5 c2d5 g0d5 g1d5 g2d5
    clear c0x5 c1x5 c2x5 g0x5 g1x5 g2x5
    have Dd6 := Lib.hid (DateAt.kept ((Dd5.out).kept (Kept.alloc (Kept.refl _) _)) hk6)
    have Dx6 := Lib.hid (DateAt.kept ((Dx5.out).kept (Kept.alloc (Kept.refl _) _)) hk6)
    have Dz6 := Lib.hid (DateAt.kept (show DateAt _ (w5.heap.size) f1 f2 f3 from by constructor <;> go_simp) hk6)
    obtain ⟨c0d6, c1d6, c2d6, g0d6, g1d6, g2d6⟩ := Dd6.out
    obtain ⟨c0x6, c1x6, c2x6, g0x6, g1x6, g2x6⟩ := Dx6.out
    obtain ⟨c0z6, c1z6, c2z6, g0z6, g1z6, g2z6⟩ := Dz6.out
    have hz6 : w.heap.size < w6.heap.size := lt_cell c0d6
    have hx6 : w4.heap.size < w6.heap.size := lt_cell c0x6
    have hy6 : w5.heap.size < w6.heap.size := lt_cell c0z6
    go_wp2_with fail
    (go_at_call 43; refine (refConvert_all _ _ _ _ _ _ _ _ _ _ HV.out (Decidable.em _)).mono ?_; rintro e w7 ⟨rfl, hk7⟩)
    clear c0d6 c1d6 c2d6 g0d6 g1d6 g2d6
    clear c0x6 c1x6 c2x6 g0x6 g1x6 g2x6
    clear c0z6 c1z6 c2z6 g0z6 g1z6 g2z6
    have Dd7 := Lib.hid (DateAt.kept ((Dd6.out).other (by omega)) hk7)
    have Dx7 := Lib.hid (DateAt.kept ((Dx6.out).set _ _ _) hk7)
    have Dz7 := Lib.hid (DateAt.kept ((Dz6.out).other (by omega)) hk7)
    obtain ⟨c0d7, c1d7, c2d7, g0d7, g1d7, g2d7⟩ := Dd7.out
    obtain ⟨c0x7, c1x7, c2x7, g0x7, g1x7, g2x7⟩ := Dx7.out
    obtain ⟨c0z7, c1z7, c2z7, g0z7, g1z7, g2z7⟩ := Dz7.out
    have hz7 : w.heap.size < w7.heap.size := lt_cell c0d7
    have hx7 : w4.heap.size < w7.heap.size := lt_cell c0x7
    have hy7 : w5.heap.size < w7.heap.size := lt_cell c0z7
    go_wp2_with fail
    (go_at_call 14; refine (OfYear_all _ _ _ _ _ (KT.out _ (by repeat (first | with_reducible exact Kept.refl _ | with_reducible assumption | with_reducible refine Kept.drew ?_ | with_reducible refine Kept.drewN ?_ _ | with_reducible refine Kept.alloc ?_ _ | (with_reducible refine Kept.setCell ?_ (by first | exact Nat.le_refl _ | omega | (simp; done) | (simp; omega)) _) | (with_reducible refine Kept.trans ?_ (by with_reducible assumption)))))).mono ?_; rintro e w8 ⟨rfl, hk8⟩)
    clear c0d7 c1d7 c2d7 g0d7 g1d7 g2d7
    clear c0x7 c1x7 c2x7 g0x7 g1x7 g2x7
    clear c0z7 c1z7 c2z7 g0z7 g1z7 g2z7
    have Dd8 := Lib.hid (DateAt.kept ((Dd7.out).other (by omega)) hk8)
    have Dx8 := Lib.hid (DateAt.kept ((Dx7.out).other (by omega)) hk8)
    have Dz8 := Lib.hid (DateAt.kept ((Dz7.out).set _ _ _) hk8)
    obtain ⟨c0d8, c1d8, c2d8, g0d8, g1d8, g2d8⟩ := Dd8.out
    obtain ⟨c0x8, c1x8, c2x8, g0x8, g1x8, g2x8⟩ := Dx8.out
    obtain ⟨c0z8, c1z8, c2z8, g0z8, g1z8, g2z8⟩ := Dz8.out
    have hz8 : w.heap.size < w8.heap.size := lt_cell c0d8
    have hx8 : w4.heap.size < w8.heap.size := lt_cell c0x8
    have hy8 : w5.heap.size < w8.heap.size := lt_cell c0z8
    go_wp2_with fail
    (go_at_call 28; refine (refOfYear_all _ _ _ _ _).mono ?_; rintro e w9 ⟨rfl, hk9⟩)
    clear c0d8 c1d8 c2d8 g0d8 g1d8 g2d8
    clear c0x8 c1x8 c2x8 g0x8 g1x8 g2x8
    clear c0z8 c1z8 c2z8 g0z8 g1z8 g2z8
    have Dd9 := Lib.hid (DateAt.kept (Dd8.out) hk9)
    have Dx9 := Lib.hid (DateAt.kept (Dx8.out) hk9)
    have Dz9 := Lib.hid (DateAt.kept (Dz8.out) hk9)
    obtain ⟨c0d9, c1d9, c2d9, g0d9, g1d9, g2d9⟩ := Dd9.out
    obtain ⟨c0x9, c1x9, c2x9, g0x9, g1x9, g2x9⟩ := Dx9.out
    obtain ⟨c0z9, c1z9, c2z9, g0z9, g1z9, g2z9⟩ := Dz9.out
    have hz9 : w.heap.size < w9.heap.size := lt_cell c0d9
    have hx9 : w4.heap.size < w9.heap.size := lt_cell c0x9
    have hy9 : w5.heap.size < w9.heap.size := lt_cell c0z9
    go_wp2_with fail
    (go_at_call 15; refine (FromYear_all _ _ _ _ _ _ _ _ (KT.out _ (by repeat (first | with_reducible exact Kept.refl _ | with_reducible assumption | with_reducible refine Kept.drew ?_ | with_reducible refine Kept.drewN ?_ _ | with_reducible refine Kept.alloc ?_ _ | (with_reducible refine Kept.setCell ?_ (by first | exact Nat.le_refl _ | omega | (simp; done) | (simp; omega)) _) | (with_reducible refine Kept.trans ?_ (by with_reducible assumption))))) HP.out KQ.out).mono ?_; rintro e w10 ⟨rfl, hk10⟩)
    clear c0d9 c1d9 c2d9 g0d9 g1d9 g2d9
    clear c0x9 c1x9 c2x9 g0x9 g1x9 g2x9
    clear c0z9 c1z9 c2z9 g0z9 g1z9 g2z9
    have Dd10 := Lib.hid (DateAt.kept (Dd9.out) hk10)
    have Dx10 := Lib.hid (DateAt.kept (Dx9.out) hk10)
    have Dz10 := Lib.hid (DateAt.kept (Dz9.out) hk10)
    obtain ⟨c0d10, c1d10, c2d10, g0d10, g1d10, g2d10⟩ := Dd10.out
    obtain ⟨c0x10, c1x10, c2x10, g0x10, g1x10, g2x10⟩ := Dx10.out
    obtain ⟨c0z10, c1z10, c2z10, g0z10, g1z10, g2z10⟩ := Dz10.out
    have hz10 : w.heap.size < w10.heap.size := lt_cell c0d10
    have hx10 : w4.heap.size < w10.heap.size := lt_cell c0x10
    have hy10 : w5.heap.size < w10.heap.size := lt_cell c0z10
    go_wp2_with fail
    (go_at_call 44; refine (refFromYear_all _ _ _ _ _ _ _ _ HP.out KQ.out).mono ?_; rintro e w11 ⟨rfl, hk11⟩)
    clear c0d10 c1d10 c2d10 g0d10 g1d10 g2d10
    clear c0x10 c1x10 c2x10 g0x10 g1x10 g2x10
    clear c0z10 c1z10 c2z10 g0z10 g1z10 g2z10
    have Dd11 := Lib.hid (DateAt.kept ((Dd10.out).other (by omega)) hk11)
    have Dx11 := Lib.hid (DateAt.kept ((Dx10.out).set _ _ _) hk11)
    have Dz11 := Lib.hid (DateAt.kept ((Dz10.out).other (by omega)) hk11)
    obtain ⟨c0d11, c1d11, c2d11, g0d11, g1d11, g2d11⟩ := Dd11.out
    obtain ⟨c0x11, c1x11, c2x11, g0x11, g1x11, g2x11⟩ := Dx11.out
    obtain ⟨c0z11, c1z11, c2z11, g0z11, g1z11, g2z11⟩ := Dz11.out
    have hz11 : w.heap.size < w11.heap.size := lt_cell c0d11
    have hx11 : w4.heap.size < w11.heap.size := lt_cell c0x11
    have hy11 : w5.heap.size < w11.heap.size := lt_cell c0z11
    go_wp2_with fail
    (go_at_call 16; refine (YearLength_all _ _ _ (KT.out _ (by repeat (first | with_reducible exact Kept.refl _ | with_reducible assumption | with_reducible refine Kept.drew ?_ | with_reducible refine Kept.drewN ?_ _ | with_reducible refine Kept.alloc ?_ _ | (with_reducible refine Kept.setCell ?_ (by first | exact Nat.le_refl _ | omega | (simp; done) | (simp; omega)) _) | (with_reducible refine Kept.trans ?_ (by with_reducible assumption)))))).mono ?_; rintro e w12 ⟨rfl, hk12⟩)
    clear c0d11 c1d11 c2d11 g0d11 g1d11 g2d11
    clear c0x11 c1x11 c2x11 g0x11 g1x11 g2x11
    clear c0z11 c1z11 c2z11 g0z11 g1z11 g2z11
    have Dd12 := Lib.hid (DateAt.kept ((Dd11.out).other (by omega)) hk12)
    have Dx12 := Lib.hid (DateAt.kept ((Dx11.out).other (by omega)) hk12)
    have Dz12 := Lib.hid (DateAt.kept ((Dz11.out).set _ _ _) hk12)
    obtain ⟨c0d12, c1d12, c2d12, g0d12, g1d12, g2d12⟩ := Dd12.out
    obtain ⟨c0x12, c1x12, c2x12, g0x12, g1x12, g2x12⟩ := Dx12.out
    obtain ⟨c0z12, c1z12, c2z12, g0z12, g1z12, g2z12⟩ := Dz12.out
    have hz12 : w.heap.size < w12.heap.size := lt_cell c0d12
    have hx12 : w4.heap.size < w12.heap.size := lt_cell c0x12
    have hy12 : w5.heap.size < w12.heap.size := lt_cell c0z12
    go_wp2_with fail
    (go_at_call 45; refine (refYearLength_all _ _ _).mono ?_; rintro e w1 ⟨rfl, rfl⟩)
    go_wp2_with fail
    (go_at_call 19; refine (Shift_all _ _ _ _ _ _ _ _ _ _ (KT.out _ (by repeat (first | with_reducible exact Kept.refl _ | with_reducible assumption | with_reducible refine Kept.drew ?_ | with_reducible refine Kept.drewN ?_ _ | with_reducible refine Kept.alloc ?_ _ | (with_reducible refine Kept.setCell ?_ (by first | exact Nat.le_refl _ | omega | (simp; done) | (simp; omega)) _) | (with_reducible refine Kept.trans ?_ (by with_reducible assumption))))) HS.out KQ.out).mono ?_; rintro e w13 ⟨rfl, hk13⟩)
    clear c0d12 c1d12 c2d12 g0d12 g1d12 g2d12
    clear c0x12 c1x12 c2x12 g0x12 g1x12 g2x12
    clear c0z12 c1z12 c2z12 g0z12 g1z12 g2z12
    have Dd13 := Lib.hid (DateAt.kept (Dd12.out) hk13)
    have Dx13 := Lib.hid (DateAt.kept (Dx12.out) hk13)
    have Dz13 := Lib.hid (DateAt.kept (Dz12.out) hk13)
    obtain ⟨c0d13, c1d13, c2d13, g0d13, g1d13, g2d13⟩ := Dd13.out
    obtain ⟨c0x13, c1x13, c2x13, g0x13, g1x13, g2x13⟩ := Dx13.out
    obtain ⟨c0z13, c1z13, c2z13, g0z13, g1z13, g2z13⟩ := Dz13.out
    have hz13 : w.heap.size < w13.heap.size := lt_cell c0d13
    have hx13 : w4.heap.size < w13.heap.size := lt_cell c0x13
    have hy13 : w5.heap.size < w13.heap.size := lt_cell c0z13
    go_wp2_with fail
    (go_at_call 46; refine (refShift_all _ _ _ _ _ _ _ _ _ _ HS.out KQ.out).mono ?_; rintro e w14 ⟨rfl, hk14⟩)
    clear c0d13 c1d13 c2d13 g0d13 g1d13 g2d13
    clear c0x13 c1x13 c2x13 g0x13 g1x13 g2x13
    clear c0z13 c1z13 c2z13 g0z13 g1z13 g2z13
    have Dd14 := Lib.hid (DateAt.kept ((Dd13.out).other (by omega)) hk14)
    have Dx14 := Lib.hid (DateAt.kept ((Dx13.out).set _ _ _) hk14)
    have Dz14 := Lib.hid (DateAt.kept ((Dz13.out).other (by omega)) hk14)
    obtain ⟨c0d14, c1d14, c2d14, g0d14, g1d14, g2d14⟩ := Dd14.out
    obtain ⟨c0x14, c1x14, c2x14, g0x14, g1x14, g2x14⟩ := Dx14.out
    obtain ⟨c0z14, c1z14, c2z14, g0z14, g1z14, g2z14⟩ := Dz14.out
    have hz14 : w.heap.size < w14.heap.size := lt_cell c0d14
    have hx14 : w4.heap.size < w14.heap.size := lt_cell c0x14
    have hy14 : w5.heap.size < w14.heap.size := lt_cell c0z14
    go_wp2_with fail
    (go_at_call 32; refine (KW.out _ (KT.out _ (by repeat (first | with_reducible exact Kept.refl _ | with_reducible assumption | with_reducible refine Kept.drew ?_ | with_reducible refine Kept.drewN ?_ _ | with_reducible refine Kept.alloc ?_ _ | (with_reducible refine Kept.setCell ?_ (by first | exact Nat.le_refl _ | omega | (simp; done) | (simp; omega)) _) | (with_reducible refine Kept.trans ?_ (by with_reducible assumption)))))).mono ?_; rintro e w15 ⟨rfl, hk15⟩)
    clear c0d14 c1d14 c2d14 g0d14 g1d14 g2d14
    clear c0x14 c1x14 c2x14 g0x14 g1x14 g2x14
    clear c0z14 c1z14 c2z14 g0z14 g1z14 g2z14
    have Dd15 := Lib.hid (DateAt.kept ((Dd14.out).other (by omega)) hk15)
    have Dx15 := Lib.hid (DateAt.kept ((Dx14.out).other (by omega)) hk15)
    have Dz15 := Lib.hid (DateAt.kept ((Dz14.out).set _ _ _) hk15)
    obtain ⟨c0d15, c1d15, c2d15, g0d15, g1d15, g2d15⟩ := Dd15.out
    obtain ⟨c0x15, c1x15, c2x15, g0x15, g1x15, g2x15⟩ := Dx15.out
    obtain ⟨c0z15, c1z15, c2z15, g0z15, g1z15, g2z15⟩ := Dz15.out
    have hz15 : w.heap.size < w15.heap.size := lt_cell c0d15
    have hx15 : w4.heap.size < w15.heap.size := lt_cell c0x15
    have hy15 : w5.heap.size < w15.heap.size := lt_cell c0z15
    go_wp2_with fail
    (go_at_call 26; refine (KL.out _).mono ?_; rintro e w16 ⟨rfl, hk16⟩)
    clear c0d15 c1d15 c2d15 g0d15 g1d15 g2d15
    clear c0x15 c1x15 c2x15 g0x15 g1x15 g2x15
    clear c0z15 c1z15 c2z15 g0z15 g1z15 g2z15
    have Dd16 := Lib.hid (DateAt.kept (Dd15.out) hk16)
    have Dx16 := Lib.hid (DateAt.kept (Dx15.out) hk16)
    have Dz16 := Lib.hid (DateAt.kept (Dz15.out) hk16)
    obtain ⟨c0d16, c1d16, c2d16, g0d16, g1d16, g2d16⟩ := Dd16.out
    obtain ⟨c0x16, c1x16, c2x16, g0x16, g1x16, g2x16⟩ := Dx16.out
    obtain ⟨c0z16, c1z16, c2z16, g0z16, g1z16, g2z16⟩ := Dz16.out
    have hz16 : w.heap.size < w16.heap.size := lt_cell c0d16
    have hx16 : w4.heap.size < w16.heap.size := lt_cell c0x16
    have hy16 : w5.heap.size < w16.heap.size := lt_cell c0z16
    go_wp2
    go_ret
    exact ⟨rfl, (by repeat (first | with_reducible exact Kept.refl _ | with_reducible assumption | with_reducible refine Kept.drew ?_ | with_reducible refine Kept.drewN ?_ _ | with_reducible refine Kept.alloc ?_ _ | (with_reducible refine Kept.setCell ?_ (by first | exact Nat.le_refl _ | omega | (simp; done) | (simp; omega)) _) | (with_reducible refine Kept.trans ?_ (by with_reducible assumption))))⟩

set_option maxRecDepth 100000 in
theorem CivilMatchesReference_contract (H : Type) (enc : TypeId × Value → H) (W : World) (base : Nat) (args : Array Value) (ds gs : List (DataW H)) (before : List MemPlace)
    (hval : ∀ (j : Nat) t v, Tryd.f12.params[j]? = some t → args[j]? = some v → Value.okWide Tryd.prog W .any base t v)
    (hW : DataW.Whole enc Tryd.prog Tryd.f12.params.toList Rows.civilMatchesReferenceSpec.vars false W args.toList ds gs before) (hL : laidMetH Tryd.prog Rows.civilMatchesReferenceRow.laid W) :
    Calls Tryd.prog 12 args W fun e W' => ∃ v, e = .returned v ∧ Rows.civilMatchesReferenceSpec.post enc Tryd.prog Tryd.f12 false true false false W args v W' := by
  have hW' := hW
  obtain ⟨p, q, hA0, hV, rfl, hfz, hnd⟩ := hW
  have hA : DataW.TrodAll enc Tryd.prog W 0 (fun _ => true) true Tryd.f12.params.toList args.toList ds p := hA0
  rw [Tryd.params12] at hA hval
  obtain ⟨v0, vs0, d0, ds0, p0, q0, hargs, rfl, rfl, h0, r0⟩ := trodAll_cons hA
  obtain ⟨v1, vs1, d1, ds1, p1, q1, rfl, rfl, rfl, h1, r1⟩ := trodAll_cons r0
  obtain ⟨v2, vs2, d2, ds2, p2, q2, rfl, rfl, rfl, h2, r2⟩ := trodAll_cons r1
  obtain ⟨v3, vs3, d3, ds3, p3, q3, rfl, rfl, rfl, h3, r3⟩ := trodAll_cons r2
  obtain ⟨v4, vs4, d4, ds4, p4, q4, rfl, rfl, rfl, h4, r4⟩ := trodAll_cons r3
  obtain ⟨v5, vs5, d5, ds5, p5, q5, rfl, rfl, rfl, h5, r5⟩ := trodAll_cons r4
  obtain ⟨rfl, rfl, rfl⟩ := trodAll_nil r5
  obtain rfl : args = #[v0, v1, v2, v3, v4, v5] := by cases args; simp_all
  obtain ⟨rfl, rfl⟩ := trodVars_none hV
  obtain ⟨a0, rfl, rfl, rfl, w0⟩ := open_int Tryd.underlying3 (hval 0 3 v0 rfl rfl) h0
  obtain ⟨a1, rfl, rfl, rfl, w1⟩ := open_int Tryd.underlying3 (hval 1 3 v1 rfl rfl) h1
  obtain ⟨c20, c21, c22, y20, y21, y22, m2, rfl, rfl, rfl, hy20, hy21, hy22⟩ := open_agg3 Tryd.underlying23 (by kernel_rfl) cells_Date (hval 2 23 v2 rfl rfl) h2
  obtain ⟨a20, e20, rfl, w20⟩ := DataW.trod_int Tryd.underlying3 hy20
  obtain ⟨a21, e21, rfl, w21⟩ := DataW.trod_int Tryd.underlying3 hy21
  obtain ⟨a22, e22, rfl, w22⟩ := DataW.trod_int Tryd.underlying3 hy22
  simp at e20 e21 e22
  subst e20 e21 e22
  obtain ⟨a3, rfl, rfl, rfl, w3⟩ := open_int Tryd.underlying3 (hval 3 3 v3 rfl rfl) h3
  obtain ⟨a4, rfl, rfl, rfl, w4⟩ := open_int Tryd.underlying3 (hval 4 3 v4 rfl rfl) h4
  obtain ⟨a5, rfl, rfl, rfl, w5⟩ := open_int Tryd.underlying3 (hval 5 3 v5 rfl rfl) h5
  clear hA0
  simp only [List.append_nil] at hW'
  refine (CivilMatchesReference_walk a0 a1 a20 a21 a22 a3 a4 a5 (wf_bounds w0) (wf_bounds w1) (wf_bounds w20) (wf_bounds w21) (wf_bounds w22) (wf_bounds w3) (wf_bounds w4) (wf_bounds w5) W (tab_of hL)).mono fun e W' ⟨he, hg⟩ => ?_
  subst he
  exact ⟨_, rfl, post_of_kept (pa := []) (pv := []) hW' (fun _ _ _ => (trodAll_cons_mk (shut_bool Tryd.underlying4 _) trodAll_mk0)) (fun sp _ => (trodAll_cons_mk (shut_int Tryd.underlying3 w0) (trodAll_cons_mk (shut_int Tryd.underlying3 w1) (trodAll_cons_mk (shut_agg3 (y0 := (.lit (.int .i64 a20), [])) (y1 := (.lit (.int .i64 a21), [])) (y2 := (.lit (.int .i64 a22), [])) Tryd.underlying23 (by kernel_rfl) cells_Date ⟨1, by simp [DataW.trod, Tryd.underlying3, w20]⟩ ⟨1, by simp [DataW.trod, Tryd.underlying3, w21]⟩ ⟨1, by simp [DataW.trod, Tryd.underlying3, w22]⟩) (trodAll_cons_mk (shut_int Tryd.underlying3 w3) (trodAll_cons_mk (shut_int Tryd.underlying3 w4) (trodAll_cons_mk (shut_int Tryd.underlying3 w5) trodAll_mk0))))))) (fun _ _ => rfl) rfl
    hg (ok_one (by kernel_rfl) rfl (okWide_bool_mk Tryd.underlying4 _))⟩
theorem CivilMatchesReference_laid (os : Os) : laidMet Tryd.prog Rows.civilMatchesReferenceRow.laid ((laidWorld os).forCall (fun _ _ => 0) ⟨#[], #[.int .i64 0, .int .i64 0, .agg #[.int .i64 0, .int .i64 0, .int .i64 0], .int .i64 0, .int .i64 0, .int .i64 0], []⟩).memory :=
  laidMet_of_run' 8 (by kernel_rfl) (by kernel_rfl)
theorem CivilMatchesReference_reads (os : Os) {H : Type} (enc : TypeId × Value → H) : ∃ places, DataW.whole enc Tryd.prog ((laidWorld os).forCall (fun _ _ => 0) ⟨#[], #[.int .i64 0, .int .i64 0, .agg #[.int .i64 0, .int .i64 0, .int .i64 0], .int .i64 0, .int .i64 0, .int .i64 0], []⟩).memory Tryd.f12.params.toList Rows.civilMatchesReferenceSpec.vars false (#[.int .i64 0, .int .i64 0, .agg #[.int .i64 0, .int .i64 0, .int .i64 0], .int .i64 0, .int .i64 0, .int .i64 0] : Array Value).toList 8 = some ([.lit (.int .i64 0), .lit (.int .i64 0), .agg [.lit (.int .i64 0), .lit (.int .i64 0), .lit (.int .i64 0)], .lit (.int .i64 0), .lit (.int .i64 0), .lit (.int .i64 0)], [], places) :=
  ⟨[], by kernel_rfl⟩
set_option maxRecDepth 100000 in
theorem CivilMatchesReference_lifted (os : Os) (started : os.Started) (H : Type) (enc : TypeId × Value → H) (F : Stop.Interp) :
    ReturnsInHanded {} Tryd.checked os 12 .any ((OpenSpec.ofChange Rows.civilMatchesReferenceSpec).preRow enc Tryd.prog Tryd.f12 Rows.civilMatchesReferenceRow.domain false Rows.civilMatchesReferenceRow.laid) (((OpenSpec.ofChange Rows.civilMatchesReferenceSpec).at F).post enc Tryd.prog Tryd.f12 false true false false) := by
  obtain ⟨places, hx⟩ := CivilMatchesReference_reads os enc
  refine returnsInHanded_of_row (C := Tryd.checked) (s := OpenSpec.ofChange Rows.civilMatchesReferenceSpec) own_knob started (by kernel_rfl) Tryd.func12
    (witness_row_at (enc := enc) (C := Tryd.checked) false (laidWorld os) #[.int .i64 0, .int .i64 0, .agg #[.int .i64 0, .int .i64 0, .int .i64 0], .int .i64 0, .int .i64 0, .int .i64 0] rfl (by kernel_rfl) (by kernel_rfl) (by kernel_rfl)
      (OpenSpec.preRow_of_cond 8 hx (by kernel_rfl) (fun k hk => by cases hk) (by kernel_rfl) (CivilMatchesReference_laid os))) ?_
  intro W base args ds gs before hval hW _ _ _ hL _ _
  exact CivilMatchesReference_contract H enc W base args ds gs before hval hW hL
theorem CivilMatchesReference_said : Rows.CivilMatchesReferenceSaid :=
  OpenClaim.holds_of_cond 12 Tryd.f12 rfl rfl rfl rfl rfl rfl rfl ⟨rfl, rfl, rfl, rfl, rfl⟩ rfl rfl rfl rfl rfl (by kernel_rfl) Tryd.func12 (by kernel_rfl)
    (of_decide_eq_true (by kernel_rfl)) (by unfold Func.isWrapper; first | (rw [if_pos (by decide +kernel)]; kernel_rfl) | (rw [if_neg (by decide +kernel)]; exact ⟨rfl, rfl⟩))
    (fun os started H enc _ F => by rw [OpenClaim.pre_eq_preRow]; exact CivilMatchesReference_lifted os started H enc F)
theorem CivilMatchesReference_plain (f : FuncId) (fn : Func) (hf : Tryd.pinned.checked.prog.funcNamed "computus/computuslaw05.CivilMatchesReference" = some f) (hfn : Tryd.pinned.checked.prog.funcs[f]? = some fn) :
    false = Tryd.pinned.checked.prog.looks [] ∧ ∀ (j : Nat) t, fn.params[j]? = some t → Tryd.pinned.checked.prog.wantsStandIn t = false := by
  obtain rfl : f = 12 := Option.some.inj ((show Tryd.prog.funcNamed "computus/computuslaw05.CivilMatchesReference" = some 12 by kernel_rfl).symm.trans hf) |>.symm
  obtain rfl : fn = Tryd.f12 := (Option.some.inj (Tryd.func12.symm.trans hfn)).symm
  refine ⟨by kernel_rfl, fun j t ht => ?_⟩
  rw [Tryd.params12] at ht
  have hm : t ∈ [3, 3, 23, 3, 3, 3] := by simpa using Array.mem_of_getElem? ht
  have hall : ([3, 3, 23, 3, 3, 3].all fun u => !Tryd.prog.wantsStandIn u) = true := by kernel_rfl
  exact (show Tryd.prog.wantsStandIn t = false by simpa using List.all_eq_true.1 hall t hm)
theorem CivilMatchesReference_proved : Rows.CivilMatchesReferenceCardSaid :=
  Claim7.holds_tied_plain_at .later [] _ _ _ _ CivilMatchesReference_said (fun _ h => by cases h) (by kernel_rfl) (fun _ h => by cases h) civilMatchesReference_row_tie rfl ⟨rfl, rfl⟩ (by kernel_rfl) rfl CivilMatchesReference_plain (by kernel_rfl)
#print axioms CivilMatchesReference_proved
end Go.Proofs.YtcfgiboknkkheaaDoor

/- CycleHistogram. -/
import Derived.Test.YtekgaihdfnhkpaaCycH
import Derived.Test.YtekgaihdfnhkpaaRows
set_option linter.unusedSimpArgs false
set_option linter.unusedVariables false
set_option linter.unusedSectionVars false
namespace Go.Proofs.Ytekgaihdfnhkpaa
open Go.ChangeShapes Go.WideShapes Go.ChangeAt Go.RowKit
set_option maxHeartbeats 1000000
set_option maxRecDepth 20000

theorem Hist_core (k f a b : Int) (hf : Fit k f) (h9 : f ≤ 999000000) (ha : 0 ≤ a ∧ a ≤ 255) (hb : 0 ≤ b ∧ b ≤ 255) :
    ∃ H X Y : Nat → Int, (∀ j, 0 ≤ H j ∧ H j ≤ 1000) ∧ (∀ j, 0 ≤ X j ∧ X j ≤ 1000) ∧ (∀ j, 0 ≤ Y j ∧ Y j ≤ 1000) ∧ (∀ j, H j = X j + Y j) ∧ sm H 35 = f + a + b + 1 - f + 1 ∧
      (∀ w, Calls Try.prog 19 #[.int .i64 k, .int .i64 f, .int .i64 (f + a + b + 1)] w fun e w' => e = .returned (.tuple #[.agg (hCells H).toArray, .int .i64 0]) ∧ Kept w w') ∧
      (∀ w, Calls Try.prog 19 #[.int .i64 k, .int .i64 f, .int .i64 (f + a)] w fun e w' => e = .returned (.tuple #[.agg (hCells X).toArray, .int .i64 0]) ∧ Kept w w') ∧
      (∀ w, Calls Try.prog 19 #[.int .i64 k, .int .i64 (f + a + 1), .int .i64 (f + a + b + 1)] w fun e w' => e = .returned (.tuple #[.agg (hCells Y).toArray, .int .i64 0]) ∧ Kept w w') := by
  have hfit : ∀ y, f ≤ y → y ≤ f + a + b + 1 → Fit k y := by intro y g1 g2; unfold Fit at *; omega
  have r1 := rg_fit k f (f + a + b + 1) hf (hfit _ (by omega) (by omega)) (by omega) (by omega)
  have r2 := rg_fit k f (f + a) hf (hfit _ (by omega) (by omega)) (by omega) (by omega)
  have r3 := rg_fit k (f + a + 1) (f + a + b + 1) (hfit _ (by omega) (by omega)) (hfit _ (by omega) (by omega)) (by omega) (by omega)
  have e1 : (f + a + b + 1 - f).toNat + 1 = (a.toNat + 1) + (b.toNat + 1) := by omega
  have e2 : (f + a - f).toNat + 1 = a.toNat + 1 := by omega
  have e3 : (f + a + b + 1 - (f + a + 1)).toNat + 1 = b.toNat + 1 := by omega
  have e4 : f + ((a.toNat + 1 : Nat) : Int) = f + a + 1 := by omega
  refine ⟨hst k f ((a.toNat + 1) + (b.toNat + 1)), hst k f (a.toNat + 1), hst k (f + a + 1) (b.toNat + 1), fun j => ?_, fun j => ?_, fun j => ?_, fun j => ?_, ?_, fun w => ?_, fun w => ?_, fun w => ?_⟩
  · have := hst_range k f ((a.toNat + 1) + (b.toNat + 1)) j; omega
  · have := hst_range k f (a.toNat + 1) j; omega
  · have := hst_range k (f + a + 1) (b.toNat + 1) j; omega
  · unfold hst
    rw [cnt_add, e4]
    omega
  · rw [sm_hst]; omega
  · have := Histogram_ok k f (f + a + b + 1) w r1; rwa [e1] at this
  · have := Histogram_ok k f (f + a) w r2; rwa [e2] at this
  · have := Histogram_ok k (f + a + 1) (f + a + b + 1) w r3; rwa [e3] at this
set_option maxHeartbeats 2000000 in
theorem CycleHistogram_good (c f a b k : Int) (hk : k = 1 ∧ c % 2 = 0 ∧ 1 ≤ f ∨ k = 2 ∧ c % 2 = 1 ∧ 1583 ≤ f) (bc1 : 0 ≤ c) (bc2 : c ≤ 255) (h9 : f ≤ 999000000) (ba : 0 ≤ a ∧ a ≤ 255) (bb : 0 ≤ b ∧ b ≤ 255) (w : World) :
    Calls Try.prog 7 #[.int .u8 c, .int .i64 f, .int .u8 a, .int .u8 b] w fun e w' => e = .returned (.bool true) ∧ Kept w w' := by
  have hf : Fit k f := by unfold Fit; omega
  obtain ⟨H, X, Y, bH, bX, bY, hXY, hS, K1, K2, K3⟩ := Hist_core k f a b hf h9 ba bb
  have KH := Lib.hid K1
  have KX := Lib.hid K2
  have KY := Lib.hid K3
  obtain ⟨ba1, ba2⟩ := ba
  obtain ⟨bb1, bb2⟩ := bb
  have HS := Lib.hid hS
  have HXY := Lib.hid hXY
  have HbH := Lib.hid bH
  have HbX := Lib.hid bX
  have HbY := Lib.hid bY
  have HSR := Lib.hid (sm_range H 1000 bH)
  clear K1 K2 K3 hf hS hXY bH bX bY
  have g1 : 1 ≤ f := by omega
  have KI := Lib.hid (fun w => In_yes f w g1 (by omega))
  have KG := Lib.hid (fun (g : 1583 ≤ f) w => InG_yes f w g (by omega))
  rcases hk with ⟨rfl, hc, hl⟩ | ⟨rfl, hc, hl⟩
  · go_enter Try.func7, Try.ntmps7
    go_wp2_with fail
    (go_at_call 8; (with_reducible refine (Cyc_awake _).mono ?_); rintro e w1 ⟨rfl, hk1⟩)
    go_wp2_with fail
    (go_at_call 12; (with_reducible refine (KI.out _).mono ?_); rintro e w1 ⟨rfl, rfl⟩)
    go_wp2_with fail
    (go_at_call 19; refine (KH.out _).mono ?_; rintro e w2 ⟨rfl, hk2⟩)
    have K2 := hk1.trans hk2
    go_wp2_with (refine wpList_store_row rfl 42 _ _ rfl w2.heap.size _ rfl rfl 42 _ (new42 w2) (rH H) (zH H) (hOne H) ?_)
    obtain ⟨BH, KW2, KV2⟩ := laid_h w w2 H K2
    generalize (w2.alloc (.cells #[.int .i64 0, .int .i64 0, .int .i64 0, .int .i64 0, .int .i64 0, .int .i64 0, .int .i64 0, .int .i64 0, .int .i64 0, .int .i64 0, .int .i64 0, .int .i64 0, .int .i64 0, .int .i64 0, .int .i64 0, .int .i64 0, .int .i64 0, .int .i64 0, .int .i64 0, .int .i64 0, .int .i64 0, .int .i64 0, .int .i64 0, .int .i64 0, .int .i64 0, .int .i64 0, .int .i64 0, .int .i64 0, .int .i64 0, .int .i64 0, .int .i64 0, .int .i64 0, .int .i64 0, .int .i64 0, .int .i64 0] 42)).setRow w2.heap.size (hCells H).toArray = W2 at *
    (go_at_call 19; refine (KX.out _).mono ?_; rintro e w3 ⟨rfl, hk3⟩)
    have K3 := KW2.trans hk3
    have BH3 := BH.kept hk3
    clear BH
    go_wp2_with (refine wpList_store_row rfl 42 _ _ rfl w3.heap.size _ rfl rfl 42 _ (new42 w3) (rH X) (zH X) (hOne X) ?_)
    obtain ⟨BX, KW3, KV3⟩ := laid_h w w3 X K3
    have BH4 := BH3.kept KV3
    generalize (w3.alloc (.cells #[.int .i64 0, .int .i64 0, .int .i64 0, .int .i64 0, .int .i64 0, .int .i64 0, .int .i64 0, .int .i64 0, .int .i64 0, .int .i64 0, .int .i64 0, .int .i64 0, .int .i64 0, .int .i64 0, .int .i64 0, .int .i64 0, .int .i64 0, .int .i64 0, .int .i64 0, .int .i64 0, .int .i64 0, .int .i64 0, .int .i64 0, .int .i64 0, .int .i64 0, .int .i64 0, .int .i64 0, .int .i64 0, .int .i64 0, .int .i64 0, .int .i64 0, .int .i64 0, .int .i64 0, .int .i64 0, .int .i64 0] 42)).setRow w3.heap.size (hCells X).toArray = W3 at *
    (go_at_call 19; refine (KY.out _).mono ?_; rintro e w4 ⟨rfl, hk4⟩)
    have K4 := KW3.trans hk4
    have BH5 := BH4.kept hk4
    have BX5 := BX.kept hk4
    clear BH3 BH4 BX
    go_wp2_with (first | (refine wpList_store_row rfl 42 _ _ rfl w4.heap.size _ rfl rfl 42 _ (new42 w4) (rH Y) (zH Y) (hOne Y) ?_) | fail)
    obtain ⟨BY, KW4, KV4⟩ := laid_h w w4 Y K4
    have BH6 := Lib.hid (BH5.kept KV4)
    have BX6 := Lib.hid (BX5.kept KV4)
    have BY6 := Lib.hid BY
    generalize (w4.alloc (.cells #[.int .i64 0, .int .i64 0, .int .i64 0, .int .i64 0, .int .i64 0, .int .i64 0, .int .i64 0, .int .i64 0, .int .i64 0, .int .i64 0, .int .i64 0, .int .i64 0, .int .i64 0, .int .i64 0, .int .i64 0, .int .i64 0, .int .i64 0, .int .i64 0, .int .i64 0, .int .i64 0, .int .i64 0, .int .i64 0, .int .i64 0, .int .i64 0, .int .i64 0, .int .i64 0, .int .i64 0, .int .i64 0, .int .i64 0, .int .i64 0, .int .i64 0, .int .i64 0, .int .i64 0, .int .i64 0, .int .i64 0] 42)).setRow w4.heap.size (hCells Y).toArray = W4 at *
    clear BH5 BX5 BY KV4 KV3 KV2 hk2 hk3 hk4 K2 K3 K4 KW2 KW3 KH KX KY
    go_loopw [17, 18] (fun s i wr => ∃ j : Nat, j ≤ 35 ∧ s = .int .i64 (sm H j) ∧ i = .int .i64 j ∧ Kept w wr ∧ Kept W4 wr) (fun _ i _ => (35 - intOf i).toNat)
    case atStart => exact ⟨0, by omega, rfl, rfl, KW4, Kept.refl _⟩
    case round =>
      obtain ⟨j, hj, rfl, rfl, hkw, hkW⟩ := hrel
      by_cases hlt : j < 35
      · obtain ⟨c1, _⟩ := (BH6.out.kept hkW).cell j hlt
        obtain ⟨c2, _⟩ := (BX6.out.kept hkW).cell j hlt
        obtain ⟨c3, _⟩ := (BY6.out.kept hkW).cell j hlt
        have h1 := HbH.out j
        have h2 := HbX.out j
        have h3 := HbY.out j
        have h4 := HXY.out j
        have h5 := HSR.out j
        have h6 : (1000 : Int) * (j : Int) ≤ 35000 := by omega
        have HT := Lib.hid (show sm H (j + 1) = sm H j + H j from rfl)
        generalize sm H j = s at *
        generalize H j = x at *
        generalize X j = x2 at *
        generalize Y j = x3 at *
        subst h4
        go_wp2
        go_region
        go_wp2
        go_roundw
        case rel => exact ⟨j + 1, by omega, by rw [HT.out], by go_num, (by repeat (first | with_reducible exact Kept.refl _ | with_reducible assumption | with_reducible refine Kept.drew ?_ | with_reducible refine Kept.drewN ?_ _ | with_reducible refine Kept.alloc ?_ _ | (with_reducible refine Kept.setCell ?_ (by first | exact Nat.le_refl _ | omega | (simp; done) | (simp; omega)) _) | (with_reducible refine Kept.trans ?_ (by with_reducible assumption)))), (by repeat (first | with_reducible exact Kept.refl _ | with_reducible assumption | with_reducible refine Kept.drew ?_ | with_reducible refine Kept.drewN ?_ _ | with_reducible refine Kept.alloc ?_ _ | (with_reducible refine Kept.setCell ?_ (by first | exact Nat.le_refl _ | omega | (simp; done) | (simp; omega)) _) | (with_reducible refine Kept.trans ?_ (by with_reducible assumption))))⟩
        case measure => simp [intOf]; omega
      · obtain rfl : j = 35 := by omega
        have hs := HS.out
        go_wp2
        go_ret
        refine ⟨?_, hkw⟩
        first | rfl | (rw [hs]; rfl)
  · go_enter Try.func7, Try.ntmps7
    go_wp2_with fail
    (go_at_call 8; (with_reducible refine (Cyc_awake _).mono ?_); rintro e w1 ⟨rfl, hk1⟩)
    go_wp2_with fail
    (go_at_call 13; (with_reducible refine (KG.out hl _).mono ?_); rintro e w1 ⟨rfl, rfl⟩)
    go_wp2_with fail
    (go_at_call 19; refine (KH.out _).mono ?_; rintro e w2 ⟨rfl, hk2⟩)
    have K2 := hk1.trans hk2
    go_wp2_with (refine wpList_store_row rfl 42 _ _ rfl w2.heap.size _ rfl rfl 42 _ (new42 w2) (rH H) (zH H) (hOne H) ?_)
    obtain ⟨BH, KW2, KV2⟩ := laid_h w w2 H K2
    generalize (w2.alloc (.cells #[.int .i64 0, .int .i64 0, .int .i64 0, .int .i64 0, .int .i64 0, .int .i64 0, .int .i64 0, .int .i64 0, .int .i64 0, .int .i64 0, .int .i64 0, .int .i64 0, .int .i64 0, .int .i64 0, .int .i64 0, .int .i64 0, .int .i64 0, .int .i64 0, .int .i64 0, .int .i64 0, .int .i64 0, .int .i64 0, .int .i64 0, .int .i64 0, .int .i64 0, .int .i64 0, .int .i64 0, .int .i64 0, .int .i64 0, .int .i64 0, .int .i64 0, .int .i64 0, .int .i64 0, .int .i64 0, .int .i64 0] 42)).setRow w2.heap.size (hCells H).toArray = W2 at *
    (go_at_call 19; refine (KX.out _).mono ?_; rintro e w3 ⟨rfl, hk3⟩)
    have K3 := KW2.trans hk3
    have BH3 := BH.kept hk3
    clear BH
    go_wp2_with (refine wpList_store_row rfl 42 _ _ rfl w3.heap.size _ rfl rfl 42 _ (new42 w3) (rH X) (zH X) (hOne X) ?_)
    obtain ⟨BX, KW3, KV3⟩ := laid_h w w3 X K3
    have BH4 := BH3.kept KV3
    generalize (w3.alloc (.cells #[.int .i64 0, .int .i64 0, .int .i64 0, .int .i64 0, .int .i64 0, .int .i64 0, .int .i64 0, .int .i64 0, .int .i64 0, .int .i64 0, .int .i64 0, .int .i64 0, .int .i64 0, .int .i64 0, .int .i64 0, .int .i64 0, .int .i64 0, .int .i64 0, .int .i64 0, .int .i64 0, .int .i64 0, .int .i64 0, .int .i64 0, .int .i64 0, .int .i64 0, .int .i64 0, .int .i64 0, .int .i64 0, .int .i64 0, .int .i64 0, .int .i64 0, .int .i64 0, .int .i64 0, .int .i64 0, .int .i64 0] 42)).setRow w3.heap.size (hCells X).toArray = W3 at *
    (go_at_call 19; refine (KY.out _).mono ?_; rintro e w4 ⟨rfl, hk4⟩)
    have K4 := KW3.trans hk4
    have BH5 := BH4.kept hk4
    have BX5 := BX.kept hk4
    clear BH3 BH4 BX
    go_wp2_with (first | (refine wpList_store_row rfl 42 _ _ rfl w4.heap.size _ rfl rfl 42 _ (new42 w4) (rH Y) (zH Y) (hOne Y) ?_) | fail)
    obtain ⟨BY, KW4, KV4⟩ := laid_h w w4 Y K4
    have BH6 := Lib.hid (BH5.kept KV4)
    have BX6 := Lib.hid (BX5.kept KV4)
    have BY6 := Lib.hid BY
    generalize (w4.alloc (.cells #[.int .i64 0, .int .i64 0, .int .i64 0, .int .i64 0, .int .i64 0, .int .i64 0, .int .i64 0, .int .i64 0, .int .i64 0, .int .i64 0, .int .i64 0, .int .i64 0, .int .i64 0, .int .i64 0, .int .i64 0, .int .i64 0, .int .i64 0, .int .i64 0, .int .i64 0, .int .i64 0, .int .i64 0, .int .i64 0, .int .i64 0, .int .i64 0, .int .i64 0, .int .i64 0, .int .i64 0, .int .i64 0, .int .i64 0, .int .i64 0, .int .i64 0, .int .i64 0, .int .i64 0, .int .i64 0, .int .i64 0] 42)).setRow w4.heap.size (hCells Y).toArray = W4 at *
    clear BH5 BX5 BY KV4 KV3 KV2 hk2 hk3 hk4 K2 K3 K4 KW2 KW3 KH KX KY
    go_loopw [17, 18] (fun s i wr => ∃ j : Nat, j ≤ 35 ∧ s = .int .i64 (sm H j) ∧ i = .int .i64 j ∧ Kept w wr ∧ Kept W4 wr) (fun _ i _ => (35 - intOf i).toNat)
    case atStart => exact ⟨0, by omega, rfl, rfl, KW4, Kept.refl _⟩
    case round =>
      obtain ⟨j, hj, rfl, rfl, hkw, hkW⟩ := hrel
      by_cases hlt : j < 35
      · obtain ⟨c1, _⟩ := (BH6.out.kept hkW).cell j hlt
        obtain ⟨c2, _⟩ := (BX6.out.kept hkW).cell j hlt
        obtain ⟨c3, _⟩ := (BY6.out.kept hkW).cell j hlt
        have h1 := HbH.out j
        have h2 := HbX.out j
        have h3 := HbY.out j
        have h4 := HXY.out j
        have h5 := HSR.out j
        have h6 : (1000 : Int) * (j : Int) ≤ 35000 := by omega
        have HT := Lib.hid (show sm H (j + 1) = sm H j + H j from rfl)
        generalize sm H j = s at *
        generalize H j = x at *
        generalize X j = x2 at *
        generalize Y j = x3 at *
        subst h4
        go_wp2
        go_region
        go_wp2
        go_roundw
        case rel => exact ⟨j + 1, by omega, by rw [HT.out], by go_num, (by repeat (first | with_reducible exact Kept.refl _ | with_reducible assumption | with_reducible refine Kept.drew ?_ | with_reducible refine Kept.drewN ?_ _ | with_reducible refine Kept.alloc ?_ _ | (with_reducible refine Kept.setCell ?_ (by first | exact Nat.le_refl _ | omega | (simp; done) | (simp; omega)) _) | (with_reducible refine Kept.trans ?_ (by with_reducible assumption)))), (by repeat (first | with_reducible exact Kept.refl _ | with_reducible assumption | with_reducible refine Kept.drew ?_ | with_reducible refine Kept.drewN ?_ _ | with_reducible refine Kept.alloc ?_ _ | (with_reducible refine Kept.setCell ?_ (by first | exact Nat.le_refl _ | omega | (simp; done) | (simp; omega)) _) | (with_reducible refine Kept.trans ?_ (by with_reducible assumption))))⟩
        case measure => simp [intOf]; omega
      · obtain rfl : j = 35 := by omega
        have hs := HS.out
        go_wp2
        go_ret
        refine ⟨?_, hkw⟩
        first | rfl | (rw [hs]; rfl)
set_option maxHeartbeats 2000000 in
theorem CycleHistogram_walk (c f a b : Int) (bc : 0 ≤ c ∧ c ≤ 255) (bf : -9223372036854775808 ≤ f ∧ f ≤ 9223372036854775807) (ba : 0 ≤ a ∧ a ≤ 255) (bb : 0 ≤ b ∧ b ≤ 255) (w : World) :
    Calls Try.prog 7 #[.int .u8 c, .int .i64 f, .int .u8 a, .int .u8 b] w fun e w' => e = .returned (.bool true) ∧ Kept w w' := by
  obtain ⟨bc1, bc2⟩ := bc
  have hk : c % 2 = 0 ∨ c % 2 = 1 := by omega
  rcases hk with hk | hk
  · by_cases g1 : 1 ≤ f
    · by_cases g2 : f ≤ 1000000000
      · by_cases g3 : f ≤ 999000000
        · exact CycleHistogram_good c f a b 1 (by omega) bc1 bc2 g3 ba bb w
        · have KI := Lib.hid (fun w => In_yes f w g1 g2)
          go_enter Try.func7, Try.ntmps7
          go_wp2_with fail
          (go_at_call 8; (with_reducible refine (Cyc_awake _).mono ?_); rintro e w1 ⟨rfl, hk1⟩)
          go_wp2_with fail
          (go_at_call 12; (with_reducible refine (KI.out _).mono ?_); rintro e w1 ⟨rfl, rfl⟩)
          go_wp2_with fail
          (go_at_call 8; refine (Cyc_awake _).mono ?_; rintro e w2 ⟨rfl, hk2⟩)
          go_wp2
          go_ret
          exact ⟨rfl, (by repeat (first | with_reducible exact Kept.refl _ | with_reducible assumption | with_reducible refine Kept.drew ?_ | with_reducible refine Kept.drewN ?_ _ | with_reducible refine Kept.alloc ?_ _ | (with_reducible refine Kept.setCell ?_ (by first | exact Nat.le_refl _ | omega | (simp; done) | (simp; omega)) _) | (with_reducible refine Kept.trans ?_ (by with_reducible assumption))))⟩
      · have KI := Lib.hid (fun w => In_no f w (.inr (by omega)))
        go_enter Try.func7, Try.ntmps7
        go_wp2_with fail
        (go_at_call 8; (with_reducible refine (Cyc_awake _).mono ?_); rintro e w1 ⟨rfl, hk1⟩)
        go_wp2_with fail
        (go_at_call 12; (with_reducible refine (KI.out _).mono ?_); rintro e w1 ⟨rfl, rfl⟩)
        go_wp2_with fail
        (go_at_call 8; refine (Cyc_awake _).mono ?_; rintro e w2 ⟨rfl, hk2⟩)
        go_wp2
        go_ret
        exact ⟨rfl, (by repeat (first | with_reducible exact Kept.refl _ | with_reducible assumption | with_reducible refine Kept.drew ?_ | with_reducible refine Kept.drewN ?_ _ | with_reducible refine Kept.alloc ?_ _ | (with_reducible refine Kept.setCell ?_ (by first | exact Nat.le_refl _ | omega | (simp; done) | (simp; omega)) _) | (with_reducible refine Kept.trans ?_ (by with_reducible assumption))))⟩
    · have KI := Lib.hid (fun w => In_no f w (.inl (by omega)))
      go_enter Try.func7, Try.ntmps7
      go_wp2_with fail
      (go_at_call 8; (with_reducible refine (Cyc_awake _).mono ?_); rintro e w1 ⟨rfl, hk1⟩)
      go_wp2_with fail
      (go_at_call 12; (with_reducible refine (KI.out _).mono ?_); rintro e w1 ⟨rfl, rfl⟩)
      go_wp2_with fail
      (go_at_call 8; refine (Cyc_awake _).mono ?_; rintro e w2 ⟨rfl, hk2⟩)
      go_wp2
      go_ret
      exact ⟨rfl, (by repeat (first | with_reducible exact Kept.refl _ | with_reducible assumption | with_reducible refine Kept.drew ?_ | with_reducible refine Kept.drewN ?_ _ | with_reducible refine Kept.alloc ?_ _ | (with_reducible refine Kept.setCell ?_ (by first | exact Nat.le_refl _ | omega | (simp; done) | (simp; omega)) _) | (with_reducible refine Kept.trans ?_ (by with_reducible assumption))))⟩
  · by_cases g1 : 1583 ≤ f
    · by_cases g2 : f ≤ 1000000000
      · by_cases g3 : f ≤ 999000000
        · exact CycleHistogram_good c f a b 2 (by omega) bc1 bc2 g3 ba bb w
        · have KI := Lib.hid (fun w => InG_yes f w g1 g2)
          go_enter Try.func7, Try.ntmps7
          go_wp2_with fail
          (go_at_call 8; (with_reducible refine (Cyc_awake _).mono ?_); rintro e w1 ⟨rfl, hk1⟩)
          go_wp2_with fail
          (go_at_call 13; (with_reducible refine (KI.out _).mono ?_); rintro e w1 ⟨rfl, rfl⟩)
          go_wp2_with fail
          (go_at_call 8; refine (Cyc_awake _).mono ?_; rintro e w2 ⟨rfl, hk2⟩)
          go_wp2
          go_ret
          exact ⟨rfl, (by repeat (first | with_reducible exact Kept.refl _ | with_reducible assumption | with_reducible refine Kept.drew ?_ | with_reducible refine Kept.drewN ?_ _ | with_reducible refine Kept.alloc ?_ _ | (with_reducible refine Kept.setCell ?_ (by first | exact Nat.le_refl _ | omega | (simp; done) | (simp; omega)) _) | (with_reducible refine Kept.trans ?_ (by with_reducible assumption))))⟩
      · have KI := Lib.hid (fun w => InG_no f w (.inr (by omega)))
        go_enter Try.func7, Try.ntmps7
        go_wp2_with fail
        (go_at_call 8; (with_reducible refine (Cyc_awake _).mono ?_); rintro e w1 ⟨rfl, hk1⟩)
        go_wp2_with fail
        (go_at_call 13; (with_reducible refine (KI.out _).mono ?_); rintro e w1 ⟨rfl, rfl⟩)
        go_wp2_with fail
        (go_at_call 8; refine (Cyc_awake _).mono ?_; rintro e w2 ⟨rfl, hk2⟩)
        go_wp2
        go_ret
        exact ⟨rfl, (by repeat (first | with_reducible exact Kept.refl _ | with_reducible assumption | with_reducible refine Kept.drew ?_ | with_reducible refine Kept.drewN ?_ _ | with_reducible refine Kept.alloc ?_ _ | (with_reducible refine Kept.setCell ?_ (by first | exact Nat.le_refl _ | omega | (simp; done) | (simp; omega)) _) | (with_reducible refine Kept.trans ?_ (by with_reducible assumption))))⟩
    · have KI := Lib.hid (fun w => InG_no f w (.inl (by omega)))
      go_enter Try.func7, Try.ntmps7
      go_wp2_with fail
      (go_at_call 8; (with_reducible refine (Cyc_awake _).mono ?_); rintro e w1 ⟨rfl, hk1⟩)
      go_wp2_with fail
      (go_at_call 13; (with_reducible refine (KI.out _).mono ?_); rintro e w1 ⟨rfl, rfl⟩)
      go_wp2_with fail
      (go_at_call 8; refine (Cyc_awake _).mono ?_; rintro e w2 ⟨rfl, hk2⟩)
      go_wp2
      go_ret
      exact ⟨rfl, (by repeat (first | with_reducible exact Kept.refl _ | with_reducible assumption | with_reducible refine Kept.drew ?_ | with_reducible refine Kept.drewN ?_ _ | with_reducible refine Kept.alloc ?_ _ | (with_reducible refine Kept.setCell ?_ (by first | exact Nat.le_refl _ | omega | (simp; done) | (simp; omega)) _) | (with_reducible refine Kept.trans ?_ (by with_reducible assumption))))⟩

set_option maxRecDepth 100000 in
theorem CycleHistogram_lifted (os : Os) (started : os.Started) (H : Type) (enc : TypeId × Value → H) :
    ReturnsInHanded {} Try.checked os 7 .any (Rows.cycleHistogramSpec.pre6 enc Try.prog Try.f7 Rows.cycleHistogramRow.domain false) (Rows.cycleHistogramSpec.post enc Try.prog Try.f7 false true false false) := by
  refine returnsInHanded_of_change (C := Try.checked) own_knob started (by kernel_rfl) Try.func7
    (ChangeSpec.witness6 (enc := enc) (C := Try.checked) false ⟨#[], #[.int .u8 0, .int .i64 0, .int .u8 0, .int .u8 0], []⟩ 8 (by kernel_rfl) (by kernel_rfl) (by kernel_rfl) (by kernel_rfl)) ?_
  intro W base args ds gs before hval0 hW hcnd _
  have hval : ∀ (j : Nat) t v, Try.f7.params[j]? = some t → args[j]? = some v → Value.okWide Try.prog W .any base t v := hval0
  clear hval0
  have hW' := hW
  obtain ⟨p, q, hA0, hV, rfl, hfz, hnd⟩ := hW
  have hA : DataW.TrodAll enc Try.prog W 0 (fun _ => true) true Try.f7.params.toList args.toList ds p := hA0
  rw [Try.params7] at hA hval
  obtain ⟨v0, vs0, d0, ds0, p0, q0, hargs, rfl, rfl, h0, r0⟩ := trodAll_cons hA
  obtain ⟨v1, vs1, d1, ds1, p1, q1, rfl, rfl, rfl, h1, r1⟩ := trodAll_cons r0
  obtain ⟨v2, vs2, d2, ds2, p2, q2, rfl, rfl, rfl, h2, r2⟩ := trodAll_cons r1
  obtain ⟨v3, vs3, d3, ds3, p3, q3, rfl, rfl, rfl, h3, r3⟩ := trodAll_cons r2
  obtain ⟨rfl, rfl, rfl⟩ := trodAll_nil r3
  obtain rfl : args = #[v0, v1, v2, v3] := by cases args; simp_all
  obtain ⟨rfl, rfl⟩ := trodVars_none hV
  obtain ⟨a0, rfl, rfl, rfl, w0⟩ := open_int Try.underlying5 (hval 0 5 v0 rfl rfl) h0
  obtain ⟨a1, rfl, rfl, rfl, w1⟩ := open_int Try.underlying3 (hval 1 3 v1 rfl rfl) h1
  obtain ⟨a2, rfl, rfl, rfl, w2⟩ := open_int Try.underlying5 (hval 2 5 v2 rfl rfl) h2
  obtain ⟨a3, rfl, rfl, rfl, w3⟩ := open_int Try.underlying5 (hval 3 5 v3 rfl rfl) h3
  clear hA0
  simp only [List.append_nil] at hW'
  refine (CycleHistogram_walk a0 a1 a2 a3 (wf_bounds8 w0) (wf_bounds w1) (wf_bounds8 w2) (wf_bounds8 w3) W).mono fun e W' ⟨he, hg⟩ => ?_
  subst he
  exact ⟨_, rfl, post_of_kept (pa := []) (pv := []) hW' (fun _ _ _ => (trodAll_cons_mk (shut_bool Try.underlying4 _) trodAll_mk0)) (fun sp _ => (trodAll_cons_mk (shut_int Try.underlying5 w0) (trodAll_cons_mk (shut_int Try.underlying3 w1) (trodAll_cons_mk (shut_int Try.underlying5 w2) (trodAll_cons_mk (shut_int Try.underlying5 w3) trodAll_mk0))))) (fun _ _ => rfl) rfl
    hg (ok_one (by kernel_rfl) rfl (okWide_bool_mk Try.underlying4 _))⟩
theorem CycleHistogram_proved : Rows.CycleHistogramSaid :=
  OpenClaim.holds_of_wide 7 Try.f7 rfl rfl rfl rfl rfl rfl rfl ⟨rfl, rfl, rfl, rfl, rfl⟩ rfl rfl rfl rfl rfl (by kernel_rfl) Try.func7 (by kernel_rfl)
    (of_decide_eq_true (by kernel_rfl)) (by unfold Func.isWrapper; first | (rw [if_pos (by decide +kernel)]; kernel_rfl) | (rw [if_neg (by decide +kernel)]; exact ⟨rfl, rfl⟩))
    (fun os started H enc _ => CycleHistogram_lifted os started H enc)
#print axioms CycleHistogram_proved
end Go.Proofs.Ytekgaihdfnhkpaa

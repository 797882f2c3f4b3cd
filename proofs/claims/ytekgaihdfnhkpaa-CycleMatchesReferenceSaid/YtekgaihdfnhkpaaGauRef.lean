/- Contracts: the reference of layer 11. -/
import Derived.Test.YtekgaihdfnhkpaaGau
set_option linter.unusedSimpArgs false
set_option linter.unusedVariables false
set_option linter.unusedSectionVars false
namespace Go.Proofs.Ytekgaihdfnhkpaa
open Go.ChangeShapes Go.WideShapes Go.ChangeAt Go.RowKit
set_option maxHeartbeats 1000000

theorem rTrace_J (y : Int) (w : World) (h : 1 ≤ y) (h' : y ≤ 1000000000) :
    Calls Try.prog 43 #[.int .i64 1, .int .i64 y] w fun e w' => e = .returned (.agg #[.int .i64 (gM 1 y), .int .i64 (gN 1 y), .int .i64 (gD 1 y), .int .i64 (gE 1 y), .int .i64 (gX 1 y)]) ∧ Kept w w' := by
  go_enter Try.func43, Try.ntmps43
  go_wp2_with fail
  (go_at_call 55; refine (Mod_any _ _ _ (by omega) (by omega) (by omega) (by omega)).mono ?_; rintro e w1 ⟨rfl, rfl⟩)
  go_wp2_with fail
  (go_at_call 55; refine (Mod_any _ _ _ (by omega) (by omega) (by omega) (by omega)).mono ?_; rintro e w1 ⟨rfl, rfl⟩)
  go_wp2_with fail
  (go_at_call 55; refine (Mod_any _ _ _ (by omega) (by omega) (by omega) (by omega)).mono ?_; rintro e w1 ⟨rfl, rfl⟩)
  go_wp2_with fail
  (go_at_call 55; refine (Mod_any _ _ _ (by omega) (by omega) (by omega) (by omega)).mono ?_; rintro e w1 ⟨rfl, rfl⟩)
  go_wp2_with fail
  (go_at_call 55; refine (Mod_any _ _ _ (by omega) (by omega) (by omega) (by omega)).mono ?_; rintro e w1 ⟨rfl, rfl⟩)
  go_wp2
  exact bodyPost_ret (v := .agg #[.int .i64 15, .int .i64 6, .int .i64 ((19 * (y % 19) + 15) % 30), .int .i64 ((2 * (y % 4) + 4 * (y % 7) + 6 * ((19 * (y % 19) + 15) % 30) + 6) % 7), .int .i64 0]) (by simp [results, Try.results43, go_sem, *]) rfl ⟨by rw [show gX 1 y = 0 from by simp [gX]]; rfl, (by repeat (first | with_reducible exact Kept.refl _ | with_reducible assumption | with_reducible refine Kept.drew ?_ | with_reducible refine Kept.drewN ?_ _ | with_reducible refine Kept.alloc ?_ _ | (with_reducible refine Kept.setCell ?_ (by first | exact Nat.le_refl _ | omega | (simp; done) | (simp; omega)) _) | (with_reducible refine Kept.trans ?_ (by with_reducible assumption))))⟩
theorem rTrace_G (y : Int) (w : World) (h : 1583 ≤ y) (h' : y ≤ 1000000000) :
    Calls Try.prog 43 #[.int .i64 2, .int .i64 y] w fun e w' => e = .returned (.agg #[.int .i64 (gM 2 y), .int .i64 (gN 2 y), .int .i64 (gD 2 y), .int .i64 (gE 2 y), .int .i64 (gX 2 y)]) ∧ Kept w w' := by
  have hf : Fit 2 y := by unfold Fit; omega
  obtain ⟨hM1, hM2⟩ := gM_range 2 y hf
  obtain ⟨hN1, hN2⟩ := gN_range 2 y hf
  clear hf
  obtain ⟨hD1, hD2⟩ := gD_range 2 y
  obtain ⟨hE1, hE2⟩ := gE_range 2 y
  have hc := gX_cases y
  have h0 : (15 - (13 + 8 * (y / 100)) / 25 + y / 100 - y / 100 / 4) % 30 = gM 2 y := rfl
  have h3 : (4 + y / 100 - y / 100 / 4) % 7 = gN 2 y := rfl
  have h1 : gD 2 y = (19 * (y % 19) + gM 2 y) % 30 := rfl
  have h2 : gE 2 y = (2 * (y % 4) + 4 * (y % 7) + 6 * ((19 * (y % 19) + gM 2 y) % 30) + gN 2 y) % 7 := rfl
  have HC := Lib.hid hc
  have H0 := Lib.hid h0
  have H1 := Lib.hid h1
  have H2 := Lib.hid h2
  have H3 := Lib.hid h3
  clear hc h0 h1 h2 h3
  go_enter Try.func43, Try.ntmps43
  go_wp2_with fail
  (go_at_call 56; refine (Div_any _ _ _ (by omega) (by omega) (by omega) (by omega)).mono ?_; rintro e w1 ⟨rfl, rfl⟩)
  go_wp2_with fail
  (go_at_call 56; refine (Div_any _ _ _ (by omega) (by omega) (by omega) (by omega)).mono ?_; rintro e w1 ⟨rfl, rfl⟩)
  go_wp2_with fail
  (go_at_call 56; refine (Div_any _ _ _ (by omega) (by omega) (by omega) (by omega)).mono ?_; rintro e w1 ⟨rfl, rfl⟩)
  go_wp2_with fail
  (go_at_call 55; refine (Mod_any _ _ _ (by omega) (by omega) (by omega) (by omega)).mono ?_; rintro e w1 ⟨rfl, rfl⟩)
  rw [H0.out]
  go_wp2_with fail
  (go_at_call 55; refine (Mod_any _ _ _ (by omega) (by omega) (by omega) (by omega)).mono ?_; rintro e w1 ⟨rfl, rfl⟩)
  rw [H3.out]
  go_wp2_with fail
  (go_at_call 55; refine (Mod_any _ _ _ (by omega) (by omega) (by omega) (by omega)).mono ?_; rintro e w1 ⟨rfl, rfl⟩)
  go_wp2_with fail
  (go_at_call 55; refine (Mod_any _ _ _ (by omega) (by omega) (by omega) (by omega)).mono ?_; rintro e w1 ⟨rfl, rfl⟩)
  go_wp2_with fail
  (go_at_call 55; refine (Mod_any _ _ _ (by omega) (by omega) (by omega) (by omega)).mono ?_; rintro e w1 ⟨rfl, rfl⟩)
  go_wp2_with fail
  (go_at_call 55; refine (Mod_any _ _ _ (by omega) (by omega) (by omega) (by omega)).mono ?_; rintro e w1 ⟨rfl, rfl⟩)
  rw [← H1.out]
  go_wp2_with fail
  (go_at_call 55; refine (Mod_any _ _ _ (by omega) (by omega) (by omega) (by omega)).mono ?_; rintro e w1 ⟨rfl, rfl⟩)
  rw [H1.out, ← H2.out, ← H1.out]
  generalize hm : gM 2 y = M at *
  generalize hd : gD 2 y = D at *
  generalize he : gE 2 y = E at *
  generalize hx : gX 2 y = X at *
  have HM := Lib.hid hm
  have HD := Lib.hid hd
  have HE := Lib.hid he
  have HX := Lib.hid hx
  clear hm hd he hx H1 H2
  rcases HC.out with ⟨a, b, rfl⟩ | ⟨a, b, rfl⟩ | ⟨a, b, rfl⟩ | ⟨a, b, c, rfl⟩ | ⟨a, b, c, rfl⟩
  · clear HC
    have hDD : D < 28 ∨ (28 ≤ D ∧ D < 29) ∨ 29 ≤ D := by omega
    rcases hDD with hDD | hDD | hDD
    · go_wp2_with (go_at_call 55; refine (Mod_any _ _ _ (by omega) (by omega) (by omega) (by omega)).mono ?_; rintro e w1 ⟨rfl, rfl⟩)
      exact bodyPost_ret (v := .agg #[.int .i64 M, .int .i64 (gN 2 y), .int .i64 D, .int .i64 E, .int .i64 0]) (by simp [results, Try.results43, go_sem, *]) rfl ⟨by rw [HM.out, HD.out, HE.out, HX.out], (by repeat (first | with_reducible exact Kept.refl _ | with_reducible assumption | with_reducible refine Kept.drew ?_ | with_reducible refine Kept.drewN ?_ _ | with_reducible refine Kept.alloc ?_ _ | (with_reducible refine Kept.setCell ?_ (by first | exact Nat.le_refl _ | omega | (simp; done) | (simp; omega)) _) | (with_reducible refine Kept.trans ?_ (by with_reducible assumption))))⟩
    · obtain rfl : D = 28 := by omega
      go_wp2_with (go_at_call 55; refine (Mod_any _ _ _ (by omega) (by omega) (by omega) (by omega)).mono ?_; rintro e w1 ⟨rfl, rfl⟩)
      exact bodyPost_ret (v := .agg #[.int .i64 M, .int .i64 (gN 2 y), .int .i64 28, .int .i64 E, .int .i64 0]) (by simp [results, Try.results43, go_sem, *]) rfl ⟨by rw [HM.out, HD.out, HE.out, HX.out], (by repeat (first | with_reducible exact Kept.refl _ | with_reducible assumption | with_reducible refine Kept.drew ?_ | with_reducible refine Kept.drewN ?_ _ | with_reducible refine Kept.alloc ?_ _ | (with_reducible refine Kept.setCell ?_ (by first | exact Nat.le_refl _ | omega | (simp; done) | (simp; omega)) _) | (with_reducible refine Kept.trans ?_ (by with_reducible assumption))))⟩
    · obtain rfl : D = 29 := by omega
      go_wp2_with (go_at_call 55; refine (Mod_any _ _ _ (by omega) (by omega) (by omega) (by omega)).mono ?_; rintro e w1 ⟨rfl, rfl⟩)
      exact bodyPost_ret (v := .agg #[.int .i64 M, .int .i64 (gN 2 y), .int .i64 29, .int .i64 E, .int .i64 0]) (by simp [results, Try.results43, go_sem, *]) rfl ⟨by rw [HM.out, HD.out, HE.out, HX.out], (by repeat (first | with_reducible exact Kept.refl _ | with_reducible assumption | with_reducible refine Kept.drew ?_ | with_reducible refine Kept.drewN ?_ _ | with_reducible refine Kept.alloc ?_ _ | (with_reducible refine Kept.setCell ?_ (by first | exact Nat.le_refl _ | omega | (simp; done) | (simp; omega)) _) | (with_reducible refine Kept.trans ?_ (by with_reducible assumption))))⟩
  · clear HC
    obtain rfl : E = 6 := by omega
    go_wp2_with (go_at_call 55; refine (Mod_any _ _ _ (by omega) (by omega) (by omega) (by omega)).mono ?_; rintro e w1 ⟨rfl, rfl⟩)
    exact bodyPost_ret (v := .agg #[.int .i64 M, .int .i64 (gN 2 y), .int .i64 D, .int .i64 6, .int .i64 0]) (by simp [results, Try.results43, go_sem, *]) rfl ⟨by rw [HM.out, HD.out, HE.out, HX.out], (by repeat (first | with_reducible exact Kept.refl _ | with_reducible assumption | with_reducible refine Kept.drew ?_ | with_reducible refine Kept.drewN ?_ _ | with_reducible refine Kept.alloc ?_ _ | (with_reducible refine Kept.setCell ?_ (by first | exact Nat.le_refl _ | omega | (simp; done) | (simp; omega)) _) | (with_reducible refine Kept.trans ?_ (by with_reducible assumption))))⟩
  · clear HC
    obtain rfl : E = 6 := by omega
    obtain rfl : D = 29 := by omega
    go_wp2_with (go_at_call 55; refine (Mod_any _ _ _ (by omega) (by omega) (by omega) (by omega)).mono ?_; rintro e w1 ⟨rfl, rfl⟩)
    exact bodyPost_ret (v := .agg #[.int .i64 M, .int .i64 (gN 2 y), .int .i64 29, .int .i64 6, .int .i64 1]) (by simp [results, Try.results43, go_sem, *]) rfl ⟨by rw [HM.out, HD.out, HE.out, HX.out], (by repeat (first | with_reducible exact Kept.refl _ | with_reducible assumption | with_reducible refine Kept.drew ?_ | with_reducible refine Kept.drewN ?_ _ | with_reducible refine Kept.alloc ?_ _ | (with_reducible refine Kept.setCell ?_ (by first | exact Nat.le_refl _ | omega | (simp; done) | (simp; omega)) _) | (with_reducible refine Kept.trans ?_ (by with_reducible assumption))))⟩
  · clear HC
    obtain rfl : E = 6 := by omega
    obtain rfl : D = 28 := by omega
    go_wp2_with (go_at_call 55; refine (Mod_any _ _ _ (by omega) (by omega) (by omega) (by omega)).mono ?_; rintro e w1 ⟨rfl, rfl⟩)
    exact bodyPost_ret (v := .agg #[.int .i64 M, .int .i64 (gN 2 y), .int .i64 28, .int .i64 6, .int .i64 2]) (by simp [results, Try.results43, go_sem, *]) rfl ⟨by rw [HM.out, HD.out, HE.out, HX.out], (by repeat (first | with_reducible exact Kept.refl _ | with_reducible assumption | with_reducible refine Kept.drew ?_ | with_reducible refine Kept.drewN ?_ _ | with_reducible refine Kept.alloc ?_ _ | (with_reducible refine Kept.setCell ?_ (by first | exact Nat.le_refl _ | omega | (simp; done) | (simp; omega)) _) | (with_reducible refine Kept.trans ?_ (by with_reducible assumption))))⟩
  · clear HC
    obtain rfl : E = 6 := by omega
    obtain rfl : D = 28 := by omega
    go_wp2_with (go_at_call 55; refine (Mod_any _ _ _ (by omega) (by omega) (by omega) (by omega)).mono ?_; rintro e w1 ⟨rfl, rfl⟩)
    exact bodyPost_ret (v := .agg #[.int .i64 M, .int .i64 (gN 2 y), .int .i64 28, .int .i64 6, .int .i64 0]) (by simp [results, Try.results43, go_sem, *]) rfl ⟨by rw [HM.out, HD.out, HE.out, HX.out], (by repeat (first | with_reducible exact Kept.refl _ | with_reducible assumption | with_reducible refine Kept.drew ?_ | with_reducible refine Kept.drewN ?_ _ | with_reducible refine Kept.alloc ?_ _ | (with_reducible refine Kept.setCell ?_ (by first | exact Nat.le_refl _ | omega | (simp; done) | (simp; omega)) _) | (with_reducible refine Kept.trans ?_ (by with_reducible assumption))))⟩
theorem rTrace_ok (k y : Int) (w : World) (h : Fit k y) :
    Calls Try.prog 43 #[.int .i64 k, .int .i64 y] w fun e w' => e = .returned (.agg #[.int .i64 (gM k y), .int .i64 (gN k y), .int .i64 (gD k y), .int .i64 (gE k y), .int .i64 (gX k y)]) ∧ Kept w w' := by
  unfold Fit at h
  rcases h with ⟨⟨rfl, h⟩ | ⟨rfl, h⟩, h'⟩
  · exact rTrace_J y w h h'
  · exact rTrace_G y w h h'

theorem gX_spec (k y : Int) (h : Fit k y) : (gX k y = 0 ∧ gD k y + gE k y ≤ 34) ∨ (gX k y = 1 ∧ k = 2 ∧ gD k y = 29 ∧ gE k y = 6) ∨ (gX k y = 2 ∧ k = 2 ∧ gD k y = 28 ∧ gE k y = 6) := by
  have hD := gD_range k y
  have hE := gE_range k y
  unfold Fit at h
  rcases h with ⟨⟨rfl, h⟩ | ⟨rfl, h⟩, h'⟩
  · have h1 : ∀ a : Fin 19, (19 * (a.val : Int) + 15) % 30 ≤ 28 := by decide
    have h2 := h1 ⟨(y % 19).toNat, by omega⟩
    have h3 : (((y % 19).toNat : Nat) : Int) = y % 19 := by omega
    rw [h3] at h2
    have h4 : gD 1 y = (19 * (y % 19) + 15) % 30 := rfl
    have h5 : gX 1 y = 0 := by simp [gX]
    exact .inl ⟨h5, by omega⟩
  · rcases gX_cases y with ⟨a, b, c⟩ | ⟨a, b, c⟩ | ⟨a, b, c⟩ | ⟨a, b, c, d⟩ | ⟨a, b, c, d⟩
    · exact .inl ⟨c, by omega⟩
    · exact .inl ⟨c, by omega⟩
    · exact .inr (.inl ⟨c, rfl, by omega, by omega⟩)
    · exact .inr (.inr ⟨d, rfl, by omega, by omega⟩)
    · exact .inl ⟨d, by omega⟩

theorem rGau_ok (k y : Int) (w : World) (h : Fit k y) :
    Calls Try.prog 33 #[.int .i64 k, .int .i64 y] w fun e w' => e = .returned (.agg #[.int .i64 y, .int .i64 (gMo k y), .int .i64 (gDa k y)]) ∧ Kept w w' := by
  have hD := gD_range k y
  have hE := gE_range k y
  have hR : gR k y = if 0 < gX k y then 22 + gD k y + gE k y - 7 else 22 + gD k y + gE k y := rfl
  have hMo : gMo k y = if 31 < gR k y then 4 else 3 := rfl
  have hDa : gDa k y = if 31 < gR k y then gR k y - 31 else gR k y := rfl
  have HT := fun w => rTrace_ok k y w h
  obtain ⟨hD1, hD2⟩ := hD
  obtain ⟨hE1, hE2⟩ := hE
  rcases gX_spec k y h with ⟨hx, hd⟩ | ⟨hx, rfl, hd, he⟩ | ⟨hx, rfl, hd, he⟩
  · rw [if_neg (by omega)] at hR
    rw [hx] at HT
    by_cases hr : 31 < 22 + gD k y + gE k y
    · rw [hR, if_pos hr] at hMo hDa
      have HMo := Lib.hid hMo
      have HDa := Lib.hid hDa
      have HTT := Lib.hid HT
      clear hMo hDa hR hx HT
      go_enter Try.func33, Try.ntmps33
      go_wp2_with fail
      (go_at_call 43; refine (HTT.out _).mono ?_; rintro e w1 ⟨rfl, hk1⟩)
      have hB1_1 := hk1
      obtain ⟨hc1_1, hf1_1⟩ := kept_cells hB1_1
      have hz1_0_1 : w.heap.size < w1.heap.size := by have := hB1_1.size; simp at this; omega
      go_wp2
      exact bodyPost_ret (v := .agg #[.int .i64 y, .int .i64 4, .int .i64 (22 + gD k y + gE k y - 31)]) (by simp [results, Try.results33, go_sem, *]) rfl ⟨by rw [HMo.out, HDa.out], (by repeat (first | with_reducible exact Kept.refl _ | with_reducible assumption | with_reducible refine Kept.drew ?_ | with_reducible refine Kept.drewN ?_ _ | with_reducible refine Kept.alloc ?_ _ | (with_reducible refine Kept.setCell ?_ (by first | exact Nat.le_refl _ | omega | (simp; done) | (simp; omega)) _) | (with_reducible refine Kept.trans ?_ (by with_reducible assumption))))⟩
    · rw [hR, if_neg hr] at hMo hDa
      have HMo := Lib.hid hMo
      have HDa := Lib.hid hDa
      have HTT := Lib.hid HT
      clear hMo hDa hR hx HT
      go_enter Try.func33, Try.ntmps33
      go_wp2_with fail
      (go_at_call 43; refine (HTT.out _).mono ?_; rintro e w1 ⟨rfl, hk1⟩)
      have hB1_1 := hk1
      obtain ⟨hc1_1, hf1_1⟩ := kept_cells hB1_1
      have hz1_0_1 : w.heap.size < w1.heap.size := by have := hB1_1.size; simp at this; omega
      go_wp2
      exact bodyPost_ret (v := .agg #[.int .i64 y, .int .i64 3, .int .i64 (22 + gD k y + gE k y)]) (by simp [results, Try.results33, go_sem, *]) rfl ⟨by rw [HMo.out, HDa.out], (by repeat (first | with_reducible exact Kept.refl _ | with_reducible assumption | with_reducible refine Kept.drew ?_ | with_reducible refine Kept.drewN ?_ _ | with_reducible refine Kept.alloc ?_ _ | (with_reducible refine Kept.setCell ?_ (by first | exact Nat.le_refl _ | omega | (simp; done) | (simp; omega)) _) | (with_reducible refine Kept.trans ?_ (by with_reducible assumption))))⟩
  · rw [if_pos (by omega), hd, he] at hR
    rw [hR, if_pos (by omega)] at hMo hDa
    rw [hx, hd, he] at HT
    have HMo := Lib.hid hMo
    have HDa := Lib.hid hDa
    have HTT := Lib.hid HT
    clear hMo hDa hR hx HT hd he
    go_enter Try.func33, Try.ntmps33
    go_wp2_with fail
    (go_at_call 43; refine (HTT.out _).mono ?_; rintro e w1 ⟨rfl, hk1⟩)
    have hB1_1 := hk1
    obtain ⟨hc1_1, hf1_1⟩ := kept_cells hB1_1
    have hz1_0_1 : w.heap.size < w1.heap.size := by have := hB1_1.size; simp at this; omega
    go_wp2
    exact bodyPost_ret (v := .agg #[.int .i64 y, .int .i64 4, .int .i64 19]) (by simp [results, Try.results33, go_sem, *]) rfl ⟨by rw [HMo.out, HDa.out]; rfl, (by repeat (first | with_reducible exact Kept.refl _ | with_reducible assumption | with_reducible refine Kept.drew ?_ | with_reducible refine Kept.drewN ?_ _ | with_reducible refine Kept.alloc ?_ _ | (with_reducible refine Kept.setCell ?_ (by first | exact Nat.le_refl _ | omega | (simp; done) | (simp; omega)) _) | (with_reducible refine Kept.trans ?_ (by with_reducible assumption))))⟩
  · rw [if_pos (by omega), hd, he] at hR
    rw [hR, if_pos (by omega)] at hMo hDa
    rw [hx, hd, he] at HT
    have HMo := Lib.hid hMo
    have HDa := Lib.hid hDa
    have HTT := Lib.hid HT
    clear hMo hDa hR hx HT hd he
    go_enter Try.func33, Try.ntmps33
    go_wp2_with fail
    (go_at_call 43; refine (HTT.out _).mono ?_; rintro e w1 ⟨rfl, hk1⟩)
    have hB1_1 := hk1
    obtain ⟨hc1_1, hf1_1⟩ := kept_cells hB1_1
    have hz1_0_1 : w.heap.size < w1.heap.size := by have := hB1_1.size; simp at this; omega
    go_wp2
    exact bodyPost_ret (v := .agg #[.int .i64 y, .int .i64 4, .int .i64 18]) (by simp [results, Try.results33, go_sem, *]) rfl ⟨by rw [HMo.out, HDa.out]; rfl, (by repeat (first | with_reducible exact Kept.refl _ | with_reducible assumption | with_reducible refine Kept.drew ?_ | with_reducible refine Kept.drewN ?_ _ | with_reducible refine Kept.alloc ?_ _ | (with_reducible refine Kept.setCell ?_ (by first | exact Nat.le_refl _ | omega | (simp; done) | (simp; omega)) _) | (with_reducible refine Kept.trans ?_ (by with_reducible assumption))))⟩
end Go.Proofs.Ytekgaihdfnhkpaa

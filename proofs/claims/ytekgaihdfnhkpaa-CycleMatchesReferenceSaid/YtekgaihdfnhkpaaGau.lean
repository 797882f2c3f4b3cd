/- Contracts: gauss and its reference. -/
import Derived.Test.YtekgaihdfnhkpaaRefF
import Derived.BigRegion
set_option linter.unusedSimpArgs false
set_option linter.unusedVariables false
set_option linter.unusedSectionVars false
namespace Go.Proofs.Ytekgaihdfnhkpaa
open Go.ChangeShapes Go.WideShapes Go.ChangeAt Go.RowKit
set_option maxHeartbeats 400000

def gM (k y : Int) : Int := if k = 1 then 15 else (15 - (13 + 8 * (y / 100)) / 25 + y / 100 - y / 100 / 4) % 30
def gN (k y : Int) : Int := if k = 1 then 6 else (4 + y / 100 - y / 100 / 4) % 7
def gD (k y : Int) : Int := (19 * (y % 19) + gM k y) % 30
def gE (k y : Int) : Int := (2 * (y % 4) + 4 * (y % 7) + 6 * gD k y + gN k y) % 7
def gX (k y : Int) : Int := if k = 2 ∧ gE k y = 6 then (if gD k y = 29 then 1 else if gD k y = 28 ∧ (11 * gM k y + 11) % 30 < 19 then 2 else 0) else 0

theorem constants_J (m n d x z y : Int) (w : World) :
    Calls Try.prog 57 #[.pointer (some ⟨w.heap.size, 0, none⟩)] (w.alloc (.cells #[.int .i64 m, .int .i64 n, .int .i64 d, .int .i64 x, .int .i64 z, .int .i64 1, .int .i64 y] 60))
      fun e w' => e = .returned (.tuple #[]) ∧ w.alloc (.cells #[.int .i64 15, .int .i64 6, .int .i64 d, .int .i64 x, .int .i64 z, .int .i64 1, .int .i64 y] 60) = w' := by
  go_enter Try.func57, Try.ntmps57
  go_wp2
  refine bodyPost_ret (results_none rfl _ _ _) rfl ?_
  exact ⟨rfl, rfl⟩
theorem constants_G (m n d x z y : Int) (w : World) (h : 1583 ≤ y) (h' : y ≤ 1000000000) :
    Calls Try.prog 57 #[.pointer (some ⟨w.heap.size, 0, none⟩)] (w.alloc (.cells #[.int .i64 m, .int .i64 n, .int .i64 d, .int .i64 x, .int .i64 z, .int .i64 2, .int .i64 y] 60))
      fun e w' => e = .returned (.tuple #[]) ∧ w.alloc (.cells #[.int .i64 (gM 2 y), .int .i64 (gN 2 y), .int .i64 d, .int .i64 x, .int .i64 z, .int .i64 2, .int .i64 y] 60) = w' := by
  go_enter Try.func57, Try.ntmps57
  go_wp2
  go_end0
  exact ⟨rfl, rfl⟩
theorem gM_range (k y : Int) (h : Fit k y) : 0 ≤ gM k y ∧ gM k y ≤ 29 := by unfold gM; split <;> omega
theorem gN_range (k y : Int) (h : Fit k y) : 0 ≤ gN k y ∧ gN k y ≤ 6 := by unfold gN; split <;> omega
theorem gD_range (k y : Int) : 0 ≤ gD k y ∧ gD k y ≤ 29 := by unfold gD; omega
theorem gE_range (k y : Int) : 0 ≤ gE k y ∧ gE k y ≤ 6 := by unfold gE; omega
theorem gX_cases (y : Int) : (gE 2 y < 6 ∧ True ∧ gX 2 y = 0) ∨ (6 ≤ gE 2 y ∧ gD 2 y < 28 ∧ gX 2 y = 0) ∨ (6 ≤ gE 2 y ∧ 29 ≤ gD 2 y ∧ gX 2 y = 1) ∨
    (6 ≤ gE 2 y ∧ (28 ≤ gD 2 y ∧ gD 2 y < 29) ∧ (11 * gM 2 y + 11) % 30 < 19 ∧ gX 2 y = 2) ∨ (6 ≤ gE 2 y ∧ (28 ≤ gD 2 y ∧ gD 2 y < 29) ∧ 19 ≤ (11 * gM 2 y + 11) % 30 ∧ gX 2 y = 0) := by
  have hD := gD_range 2 y
  have hE := gE_range 2 y
  unfold gX
  split
  · split
    · omega
    · split <;> omega
  · rename_i h; exact .inl ⟨by have : gE 2 y ≠ 6 := fun e => h ⟨rfl, e⟩; omega, trivial, rfl⟩
theorem solve_any (k y : Int) (h : Fit k y) (w : World) :
    Calls Try.prog 44 #[.pointer (some ⟨w.heap.size, 0, none⟩)] (w.alloc (.cells #[.int .i64 0, .int .i64 0, .int .i64 0, .int .i64 0, .int .i64 0, .int .i64 k, .int .i64 y] 60))
      fun e w' => e = .returned (.tuple #[]) ∧ (w.alloc (.cells #[.int .i64 (gM k y), .int .i64 (gN k y), .int .i64 (gD k y), .int .i64 (gE k y), .int .i64 (gX k y), .int .i64 k, .int .i64 y] 60)).drew.drew = w' := by
  obtain ⟨hM1, hM2⟩ := gM_range k y h
  obtain ⟨hN1, hN2⟩ := gN_range k y h
  obtain ⟨hD1, hD2⟩ := gD_range k y
  obtain ⟨hE1, hE2⟩ := gE_range k y
  unfold Fit at h
  rcases h with ⟨⟨rfl, h⟩ | ⟨rfl, h⟩, h'⟩
  · go_enter Try.func44, Try.ntmps44
    go_wp2_with fail
    (go_at_call 57; refine (constants_J _ _ _ _ _ _ _).mono ?_; rintro e w1 ⟨rfl, rfl⟩)
    go_wp2
    go_region
    go_wp2
    go_region
    go_wp2
    go_end0
    exact ⟨rfl, by rw [show gX 1 y = 0 from by simp [gX]]; rfl⟩
  · have HN := hN1
    have hc := gX_cases y
    have h1 : gD 2 y = (19 * (y % 19) + gM 2 y) % 30 := rfl
    have h2 : gE 2 y = (2 * (y % 4) + 4 * (y % 7) + 6 * ((19 * (y % 19) + gM 2 y) % 30) + gN 2 y) % 7 := rfl
    have HC := Lib.hid hc
    have H1 := Lib.hid h1
    have H2 := Lib.hid h2
    clear hc h1 h2
    go_enter Try.func44, Try.ntmps44
    go_wp2_with fail
    (go_at_call 57; refine (constants_G _ _ _ _ _ _ _ h h').mono ?_; rintro e w1 ⟨rfl, rfl⟩)
    go_wp2
    go_region
    go_wp2
    go_region
    rw [← H2.out, ← H1.out]
    generalize hm : gM 2 y = M at *
    generalize hd : gD 2 y = D at *
    generalize he : gE 2 y = E at *
    generalize hx : gX 2 y = X at *
    have HM := Lib.hid hm
    have HD := Lib.hid hd
    have HE := Lib.hid he
    have HX := Lib.hid hx
    clear hm hd he hx H1 H2
    rcases HC.out with ⟨a, b, rfl⟩ | ⟨a, b, rfl⟩ | ⟨a, b, rfl⟩ | ⟨a, b, c, rfl⟩ | ⟨a, b, c, rfl⟩
    · clear HC
      go_wp2
      go_end0
      exact ⟨rfl, by rw [HM.out, HD.out, HE.out, HX.out]⟩
    · obtain rfl : E = 6 := by omega
      clear HC
      go_wp2
      go_end0
      exact ⟨rfl, by rw [HM.out, HD.out, HE.out, HX.out]⟩
    · obtain rfl : E = 6 := by omega
      obtain rfl : D = 29 := by omega
      clear HC
      go_wp2
      go_end0
      exact ⟨rfl, by rw [HM.out, HD.out, HE.out, HX.out]⟩
    · obtain rfl : E = 6 := by omega
      obtain rfl : D = 28 := by omega
      clear HC
      go_wp2
      go_end0
      exact ⟨rfl, by rw [HM.out, HD.out, HE.out, HX.out]⟩
    · obtain rfl : E = 6 := by omega
      obtain rfl : D = 28 := by omega
      clear HC
      go_wp2
      go_end0
      exact ⟨rfl, by rw [HM.out, HD.out, HE.out, HX.out]⟩

theorem grun_arg (k y : Int) (w : World) (h : k < 1 ∨ 2 < k) :
    Calls Try.prog 35 #[.int .i64 k, .int .i64 y] w fun e w' => e = .returned (.tuple #[.pointer (some ⟨w.heap.size, 0, none⟩), .int .i64 3]) ∧ w.alloc (.cells #[.int .i64 0, .int .i64 0, .int .i64 0, .int .i64 0, .int .i64 0, .int .i64 0, .int .i64 0] 60) = w' := by
  rcases h with h | h
  all_goals
    go_enter Try.func35, Try.ntmps35
    go_wp2
    go_ret2
    exact ⟨rfl, rfl⟩
theorem grun_off (k y : Int) (w : World) (h : Off k y) :
    Calls Try.prog 35 #[.int .i64 k, .int .i64 y] w fun e w' => e = .returned (.tuple #[.pointer (some ⟨w.heap.size, 0, none⟩), .int .i64 1]) ∧ w.alloc (.cells #[.int .i64 0, .int .i64 0, .int .i64 0, .int .i64 0, .int .i64 0, .int .i64 0, .int .i64 0] 60) = w' := by
  unfold Off at h
  rcases h with ⟨rfl, h | h⟩ | ⟨rfl, h | h⟩
  all_goals
    go_enter Try.func35, Try.ntmps35
    go_wp2
    go_ret2
    exact ⟨rfl, rfl⟩
theorem grun_ok (k y : Int) (w : World) (h : Fit k y) :
    Calls Try.prog 35 #[.int .i64 k, .int .i64 y] w fun e w' => e = .returned (.tuple #[.pointer (some ⟨w.heap.size, 0, none⟩), .int .i64 0]) ∧ (w.alloc (.cells #[.int .i64 (gM k y), .int .i64 (gN k y), .int .i64 (gD k y), .int .i64 (gE k y), .int .i64 (gX k y), .int .i64 k, .int .i64 y] 60)).drew.drew = w' := by
  have HF := Lib.hid h
  unfold Fit at h
  rcases h with ⟨⟨rfl, h⟩ | ⟨rfl, h⟩, h'⟩
  all_goals
    go_enter Try.func35, Try.ntmps35
    go_wp2_with fail
    (go_at_call 44; refine (solve_any _ _ HF.out _).mono ?_; rintro e w1 ⟨rfl, rfl⟩)
    go_wp2
    go_ret2
    exact ⟨rfl, rfl⟩

theorem Gau_arg (k y : Int) (w : World) (h : k < 1 ∨ 2 < k) :
    Calls Try.prog 22 #[.int .i64 k, .int .i64 y] w fun e w' => e = .returned (.tuple #[.agg #[.int .i64 0, .int .i64 0, .int .i64 0], .int .i64 3]) ∧ Kept w w' := by
  go_enter Try.func22, Try.ntmps22
  go_wp2_with fail
  (go_at_call 35; refine (grun_arg _ _ _ h).mono ?_; rintro e w1 ⟨rfl, rfl⟩)
  go_wp2
  exact bodyPost_ret (v := .tuple #[.agg #[.int .i64 0, .int .i64 0, .int .i64 0], .int .i64 3]) (by simp [results, Try.results22, go_sem, *]) rfl ⟨rfl, (by repeat (first | with_reducible exact Kept.refl _ | with_reducible assumption | with_reducible refine Kept.drew ?_ | with_reducible refine Kept.drewN ?_ _ | with_reducible refine Kept.alloc ?_ _ | (with_reducible refine Kept.setCell ?_ (by first | exact Nat.le_refl _ | omega | (simp; done) | (simp; omega)) _) | (with_reducible refine Kept.trans ?_ (by with_reducible assumption))))⟩
theorem Gau_off (k y : Int) (w : World) (h : Off k y) :
    Calls Try.prog 22 #[.int .i64 k, .int .i64 y] w fun e w' => e = .returned (.tuple #[.agg #[.int .i64 0, .int .i64 0, .int .i64 0], .int .i64 1]) ∧ Kept w w' := by
  go_enter Try.func22, Try.ntmps22
  go_wp2_with fail
  (go_at_call 35; refine (grun_off _ _ _ h).mono ?_; rintro e w1 ⟨rfl, rfl⟩)
  go_wp2
  exact bodyPost_ret (v := .tuple #[.agg #[.int .i64 0, .int .i64 0, .int .i64 0], .int .i64 1]) (by simp [results, Try.results22, go_sem, *]) rfl ⟨rfl, (by repeat (first | with_reducible exact Kept.refl _ | with_reducible assumption | with_reducible refine Kept.drew ?_ | with_reducible refine Kept.drewN ?_ _ | with_reducible refine Kept.alloc ?_ _ | (with_reducible refine Kept.setCell ?_ (by first | exact Nat.le_refl _ | omega | (simp; done) | (simp; omega)) _) | (with_reducible refine Kept.trans ?_ (by with_reducible assumption))))⟩
/-- The day of March of Easter, by the method of Gauss. -/
def gR (k y : Int) : Int := if 0 < gX k y then 22 + gD k y + gE k y - 7 else 22 + gD k y + gE k y
def gMo (k y : Int) : Int := if 31 < gR k y then 4 else 3
def gDa (k y : Int) : Int := if 31 < gR k y then gR k y - 31 else gR k y
theorem Gau_ok (k y : Int) (w : World) (h : Fit k y) :
    Calls Try.prog 22 #[.int .i64 k, .int .i64 y] w fun e w' => e = .returned (.tuple #[.agg #[.int .i64 y, .int .i64 (gMo k y), .int .i64 (gDa k y)], .int .i64 0]) ∧ Kept w w' := by
  obtain ⟨hD1, hD2⟩ := gD_range k y
  obtain ⟨hE1, hE2⟩ := gE_range k y
  have hR : gR k y = if 0 < gX k y then 22 + gD k y + gE k y - 7 else 22 + gD k y + gE k y := rfl
  have hMo : gMo k y = if 31 < gR k y then 4 else 3 := rfl
  have hDa : gDa k y = if 31 < gR k y then gR k y - 31 else gR k y := rfl
  by_cases hx : 0 < gX k y
  · rw [if_pos hx] at hR
    by_cases hr : 31 < 22 + gD k y + gE k y - 7
    · rw [hR, if_pos hr] at hMo hDa
      have HMo := Lib.hid hMo
      have HDa := Lib.hid hDa
      clear hMo hDa hR
      go_enter Try.func22, Try.ntmps22
      go_wp2_with fail
      (go_at_call 35; refine (grun_ok _ _ _ h).mono ?_; rintro e w1 ⟨rfl, rfl⟩)
      go_wp2
      go_region
      go_wp2
      exact bodyPost_ret (v := .tuple #[.agg #[.int .i64 y, .int .i64 4, .int .i64 (22 + gD k y + gE k y - 7 - 31)], .int .i64 0]) (by simp [results, Try.results22, go_sem, *]) rfl ⟨by rw [HMo.out, HDa.out], (by repeat (first | with_reducible exact Kept.refl _ | with_reducible assumption | with_reducible refine Kept.drew ?_ | with_reducible refine Kept.drewN ?_ _ | with_reducible refine Kept.alloc ?_ _ | (with_reducible refine Kept.setCell ?_ (by first | exact Nat.le_refl _ | omega | (simp; done) | (simp; omega)) _) | (with_reducible refine Kept.trans ?_ (by with_reducible assumption))))⟩
    · rw [hR, if_neg hr] at hMo hDa
      have HMo := Lib.hid hMo
      have HDa := Lib.hid hDa
      clear hMo hDa hR
      go_enter Try.func22, Try.ntmps22
      go_wp2_with fail
      (go_at_call 35; refine (grun_ok _ _ _ h).mono ?_; rintro e w1 ⟨rfl, rfl⟩)
      go_wp2
      go_region
      go_wp2
      exact bodyPost_ret (v := .tuple #[.agg #[.int .i64 y, .int .i64 3, .int .i64 (22 + gD k y + gE k y - 7)], .int .i64 0]) (by simp [results, Try.results22, go_sem, *]) rfl ⟨by rw [HMo.out, HDa.out], (by repeat (first | with_reducible exact Kept.refl _ | with_reducible assumption | with_reducible refine Kept.drew ?_ | with_reducible refine Kept.drewN ?_ _ | with_reducible refine Kept.alloc ?_ _ | (with_reducible refine Kept.setCell ?_ (by first | exact Nat.le_refl _ | omega | (simp; done) | (simp; omega)) _) | (with_reducible refine Kept.trans ?_ (by with_reducible assumption))))⟩
  · rw [if_neg hx] at hR
    by_cases hr : 31 < 22 + gD k y + gE k y
    · rw [hR, if_pos hr] at hMo hDa
      have HMo := Lib.hid hMo
      have HDa := Lib.hid hDa
      clear hMo hDa hR
      go_enter Try.func22, Try.ntmps22
      go_wp2_with fail
      (go_at_call 35; refine (grun_ok _ _ _ h).mono ?_; rintro e w1 ⟨rfl, rfl⟩)
      go_wp2
      go_region
      go_wp2
      exact bodyPost_ret (v := .tuple #[.agg #[.int .i64 y, .int .i64 4, .int .i64 (22 + gD k y + gE k y - 31)], .int .i64 0]) (by simp [results, Try.results22, go_sem, *]) rfl ⟨by rw [HMo.out, HDa.out], (by repeat (first | with_reducible exact Kept.refl _ | with_reducible assumption | with_reducible refine Kept.drew ?_ | with_reducible refine Kept.drewN ?_ _ | with_reducible refine Kept.alloc ?_ _ | (with_reducible refine Kept.setCell ?_ (by first | exact Nat.le_refl _ | omega | (simp; done) | (simp; omega)) _) | (with_reducible refine Kept.trans ?_ (by with_reducible assumption))))⟩
    · rw [hR, if_neg hr] at hMo hDa
      have HMo := Lib.hid hMo
      have HDa := Lib.hid hDa
      clear hMo hDa hR
      go_enter Try.func22, Try.ntmps22
      go_wp2_with fail
      (go_at_call 35; refine (grun_ok _ _ _ h).mono ?_; rintro e w1 ⟨rfl, rfl⟩)
      go_wp2
      go_region
      go_wp2
      exact bodyPost_ret (v := .tuple #[.agg #[.int .i64 y, .int .i64 3, .int .i64 (22 + gD k y + gE k y)], .int .i64 0]) (by simp [results, Try.results22, go_sem, *]) rfl ⟨by rw [HMo.out, HDa.out], (by repeat (first | with_reducible exact Kept.refl _ | with_reducible assumption | with_reducible refine Kept.drew ?_ | with_reducible refine Kept.drewN ?_ _ | with_reducible refine Kept.alloc ?_ _ | (with_reducible refine Kept.setCell ?_ (by first | exact Nat.le_refl _ | omega | (simp; done) | (simp; omega)) _) | (with_reducible refine Kept.trans ?_ (by with_reducible assumption))))⟩
end Go.Proofs.Ytekgaihdfnhkpaa

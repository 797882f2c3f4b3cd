/- Contracts and plain lemmas: Gau, ButS, MoonG. -/
import Derived.Test.YtblaphkaklocfaaGreatDoorG01
import Derived.Test.YtblaphkaklocfaaGreatDoorG05
import Derived.BigRegion
import Derived.Outline
set_option linter.unusedSimpArgs false
set_option linter.unusedVariables false
set_option linter.unusedSectionVars false
/- Contracts: gauss and its reference. -/
namespace Go.Proofs.YtblaphkaklocfaaGreatDoor
open Go.ChangeShapes Go.WideShapes Go.ChangeAt Go.RowKit
set_option maxHeartbeats 400000

def gM (k y : Int) : Int := if k = 1 then 15 else (15 - (13 + 8 * (y / 100)) / 25 + y / 100 - y / 100 / 4) % 30
def gN (k y : Int) : Int := if k = 1 then 6 else (4 + y / 100 - y / 100 / 4) % 7
def gD (k y : Int) : Int := (19 * (y % 19) + gM k y) % 30
def gE (k y : Int) : Int := (2 * (y % 4) + 4 * (y % 7) + 6 * gD k y + gN k y) % 7
def gX (k y : Int) : Int := if k = 2 ∧ gE k y = 6 then (if gD k y = 29 then 1 else if gD k y = 28 ∧ (11 * gM k y + 11) % 30 < 19 then 2 else 0) else 0

theorem constants_J (m n d x z y : Int) (w : World) :
    Calls Tryz.prog 277 #[.pointer (some ⟨w.heap.size, 0, none⟩)] (w.alloc (.cells #[.int .i64 m, .int .i64 n, .int .i64 d, .int .i64 x, .int .i64 z, .int .i64 1, .int .i64 y] 280))
      fun e w' => e = .returned (.tuple #[]) ∧ w.alloc (.cells #[.int .i64 15, .int .i64 6, .int .i64 d, .int .i64 x, .int .i64 z, .int .i64 1, .int .i64 y] 280) = w' := by
  go_enter Tryz.func277, Tryz.ntmps277
  go_wp2
  refine bodyPost_ret (results_none rfl _ _ _) rfl ?_
  exact ⟨rfl, rfl⟩
theorem constants_G (m n d x z y : Int) (w : World) (h : 1583 ≤ y) (h' : y ≤ 1000000000) :
    Calls Tryz.prog 277 #[.pointer (some ⟨w.heap.size, 0, none⟩)] (w.alloc (.cells #[.int .i64 m, .int .i64 n, .int .i64 d, .int .i64 x, .int .i64 z, .int .i64 2, .int .i64 y] 280))
      fun e w' => e = .returned (.tuple #[]) ∧ w.alloc (.cells #[.int .i64 (gM 2 y), .int .i64 (gN 2 y), .int .i64 d, .int .i64 x, .int .i64 z, .int .i64 2, .int .i64 y] 280) = w' := by
  go_enter Tryz.func277, Tryz.ntmps277
  go_wp2
  go_end0
  exact ⟨rfl, rfl⟩
theorem gM_range (k y : Int) (h : Fit k y) : 0 ≤ gM k y ∧ gM k y ≤ 29 := by unfold gM; split <;> omega
theorem gN_range (k y : Int) (h : Fit k y) : 0 ≤ gN k y ∧ gN k y ≤ 6 := by unfold gN; split <;> omega
theorem gD_range (k y : Int) : 0 ≤ gD k y ∧ gD k y ≤ 29 := by unfold gD; omega
theorem gE_range (k y : Int) : 0 ≤ gE k y ∧ gE k y ≤ 6 := by unfold gE; omega
theorem gX_cases (y : Int) : (gE 2 y < 6 ∧ True ∧ gX 2 y = 0) ∨ (6 ≤ gE 2 y ∧ gD 2 y < 28 ∧ gX 2 y = 0) ∨ (6 ≤ gE 2 y ∧ 29 ≤ gD 2 y ∧ gX 2 y = 1) ∨
    (6 ≤ gE 2 y ∧ (28 ≤ gD 2 y ∧ gD 2 y < 29) ∧ (11 * gM 2 y + 11) % 30 < 19 ∧ gX 2 y = 2) ∨ (6 ≤ gE 2 y ∧ (28 ≤ gD 2 y ∧ gD 2 y < 29) ∧ 19 ≤ (11 * gM 2 y + 11) % 30 ∧ gX 2 y = 0) := by
  have hD := gD_range 2 y
  have hE := gE_range 2 y
  unfold gX
  split
  · split
    · omega
    · split <;> omega
  · rename_i h; exact .inl ⟨by have : gE 2 y ≠ 6 := fun e => h ⟨rfl, e⟩; omega, trivial, rfl⟩
theorem solve_any (k y : Int) (h : Fit k y) (w : World) :
    Calls Tryz.prog 266 #[.pointer (some ⟨w.heap.size, 0, none⟩)] (w.alloc (.cells #[.int .i64 0, .int .i64 0, .int .i64 0, .int .i64 0, .int .i64 0, .int .i64 k, .int .i64 y] 280))
      fun e w' => e = .returned (.tuple #[]) ∧ (w.alloc (.cells #[.int .i64 (gM k y), .int .i64 (gN k y), .int .i64 (gD k y), .int .i64 (gE k y), .int .i64 (gX k y), .int .i64 k, .int .i64 y] 280)).drew.drew = w' := by
  obtain ⟨hM1, hM2⟩ := gM_range k y h
  obtain ⟨hN1, hN2⟩ := gN_range k y h
  obtain ⟨hD1, hD2⟩ := gD_range k y
  obtain ⟨hE1, hE2⟩ := gE_range k y
  unfold Fit at h
  rcases h with ⟨⟨rfl, h⟩ | ⟨rfl, h⟩, h'⟩
  · go_enter Tryz.func266, Tryz.ntmps266
    go_wp2_with fail
    (go_at_call 277; refine (constants_J _ _ _ _ _ _ _).mono ?_; rintro e w1 ⟨rfl, rfl⟩)
    go_wp2
    go_region
    go_wp2
    go_region
    go_wp2
    go_end0
    exact ⟨rfl, by rw [show gX 1 y = 0 from by simp [gX]]; rfl⟩
  · have HN := hN1
    have hc := gX_cases y
    have h1 : gD 2 y = (19 * (y % 19) + gM 2 y) % 30 := rfl
    have h2 : gE 2 y = (2 * (y % 4) + 4 * (y % 7) + 6 * ((19 * (y % 19) + gM 2 y) % 30) + gN 2 y) % 7 := rfl
    have HC := Lib.hid hc
    have H1 := Lib.hid h1
    have H2 := Lib.hid h2
    clear hc h1 h2
    go_enter Tryz.func266, Tryz.ntmps266
    go_wp2_with fail
    (go_at_call 277; refine (constants_G _ _ _ _ _ _ _ h h').mono ?_; rintro e w1 ⟨rfl, rfl⟩)
    go_wp2
    go_region
    go_wp2
    go_region
    rw [← H2.out, ← H1.out]
    generalize hm : gM 2 y = M at *
    generalize hd : gD 2 y = D at *
    generalize he : gE 2 y = E at *
    generalize hx : gX 2 y = X at *
    have HM := Lib.hid hm
    have HD := Lib.hid hd
    have HE := Lib.hid he
    have HX := Lib.hid hx
    clear hm hd he hx H1 H2
    rcases HC.out with ⟨a, b, rfl⟩ | ⟨a, b, rfl⟩ | ⟨a, b, rfl⟩ | ⟨a, b, c, rfl⟩ | ⟨a, b, c, rfl⟩
    · clear HC
      go_wp2
      go_end0
      exact ⟨rfl, by rw [HM.out, HD.out, HE.out, HX.out]⟩
    · obtain rfl : E = 6 := by omega
      clear HC
      go_wp2
      go_end0
      exact ⟨rfl, by rw [HM.out, HD.out, HE.out, HX.out]⟩
    · obtain rfl : E = 6 := by omega
      obtain rfl : D = 29 := by omega
      clear HC
      go_wp2
      go_end0
      exact ⟨rfl, by rw [HM.out, HD.out, HE.out, HX.out]⟩
    · obtain rfl : E = 6 := by omega
      obtain rfl : D = 28 := by omega
      clear HC
      go_wp2
      go_end0
      exact ⟨rfl, by rw [HM.out, HD.out, HE.out, HX.out]⟩
    · obtain rfl : E = 6 := by omega
      obtain rfl : D = 28 := by omega
      clear HC
      go_wp2
      go_end0
      exact ⟨rfl, by rw [HM.out, HD.out, HE.out, HX.out]⟩

theorem grun_arg (k y : Int) (w : World) (h : k < 1 ∨ 2 < k) :
    Calls Tryz.prog 236 #[.int .i64 k, .int .i64 y] w fun e w' => e = .returned (.tuple #[.pointer (some ⟨w.heap.size, 0, none⟩), .int .i64 3]) ∧ w.alloc (.cells #[.int .i64 0, .int .i64 0, .int .i64 0, .int .i64 0, .int .i64 0, .int .i64 0, .int .i64 0] 280) = w' := by
  rcases h with h | h
  all_goals
    go_enter Tryz.func236, Tryz.ntmps236
    go_wp2
    go_ret2
    exact ⟨rfl, rfl⟩
theorem grun_off (k y : Int) (w : World) (h : Off k y) :
    Calls Tryz.prog 236 #[.int .i64 k, .int .i64 y] w fun e w' => e = .returned (.tuple #[.pointer (some ⟨w.heap.size, 0, none⟩), .int .i64 1]) ∧ w.alloc (.cells #[.int .i64 0, .int .i64 0, .int .i64 0, .int .i64 0, .int .i64 0, .int .i64 0, .int .i64 0] 280) = w' := by
  unfold Off at h
  rcases h with ⟨rfl, h | h⟩ | ⟨rfl, h | h⟩
  all_goals
    go_enter Tryz.func236, Tryz.ntmps236
    go_wp2
    go_ret2
    exact ⟨rfl, rfl⟩
theorem grun_ok (k y : Int) (w : World) (h : Fit k y) :
    Calls Tryz.prog 236 #[.int .i64 k, .int .i64 y] w fun e w' => e = .returned (.tuple #[.pointer (some ⟨w.heap.size, 0, none⟩), .int .i64 0]) ∧ (w.alloc (.cells #[.int .i64 (gM k y), .int .i64 (gN k y), .int .i64 (gD k y), .int .i64 (gE k y), .int .i64 (gX k y), .int .i64 k, .int .i64 y] 280)).drew.drew = w' := by
  have HF := Lib.hid h
  unfold Fit at h
  rcases h with ⟨⟨rfl, h⟩ | ⟨rfl, h⟩, h'⟩
  all_goals
    go_enter Tryz.func236, Tryz.ntmps236
    go_wp2_with fail
    (go_at_call 266; refine (solve_any _ _ HF.out _).mono ?_; rintro e w1 ⟨rfl, rfl⟩)
    go_wp2
    go_ret2
    exact ⟨rfl, rfl⟩

theorem Gau_arg (k y : Int) (w : World) (h : k < 1 ∨ 2 < k) :
    Calls Tryz.prog 186 #[.int .i64 k, .int .i64 y] w fun e w' => e = .returned (.tuple #[.agg #[.int .i64 0, .int .i64 0, .int .i64 0], .int .i64 3]) ∧ Kept w w' := by
  go_enter Tryz.func186, Tryz.ntmps186
  go_wp2_with fail
  (go_at_call 236; refine (grun_arg _ _ _ h).mono ?_; rintro e w1 ⟨rfl, rfl⟩)
  go_wp2
  exact bodyPost_ret (v := .tuple #[.agg #[.int .i64 0, .int .i64 0, .int .i64 0], .int .i64 3]) (by simp [results, Tryz.results186, go_sem, *]) rfl ⟨rfl, (by repeat (first | with_reducible exact Kept.refl _ | with_reducible assumption | with_reducible refine Kept.drew ?_ | with_reducible refine Kept.drewN ?_ _ | with_reducible refine Kept.alloc ?_ _ | (with_reducible refine Kept.setCell ?_ (by first | exact Nat.le_refl _ | omega | (simp; done) | (simp; omega)) _) | (with_reducible refine Kept.trans ?_ (by with_reducible assumption))))⟩
theorem Gau_off (k y : Int) (w : World) (h : Off k y) :
    Calls Tryz.prog 186 #[.int .i64 k, .int .i64 y] w fun e w' => e = .returned (.tuple #[.agg #[.int .i64 0, .int .i64 0, .int .i64 0], .int .i64 1]) ∧ Kept w w' := by
  go_enter Tryz.func186, Tryz.ntmps186
  go_wp2_with fail
  (go_at_call 236; refine (grun_off _ _ _ h).mono ?_; rintro e w1 ⟨rfl, rfl⟩)
  go_wp2
  exact bodyPost_ret (v := .tuple #[.agg #[.int .i64 0, .int .i64 0, .int .i64 0], .int .i64 1]) (by simp [results, Tryz.results186, go_sem, *]) rfl ⟨rfl, (by repeat (first | with_reducible exact Kept.refl _ | with_reducible assumption | with_reducible refine Kept.drew ?_ | with_reducible refine Kept.drewN ?_ _ | with_reducible refine Kept.alloc ?_ _ | (with_reducible refine Kept.setCell ?_ (by first | exact Nat.le_refl _ | omega | (simp; done) | (simp; omega)) _) | (with_reducible refine Kept.trans ?_ (by with_reducible assumption))))⟩
/-- The day of March of Easter, by the method of Gauss. -/
def gR (k y : Int) : Int := if 0 < gX k y then 22 + gD k y + gE k y - 7 else 22 + gD k y + gE k y
def gMo (k y : Int) : Int := if 31 < gR k y then 4 else 3
def gDa (k y : Int) : Int := if 31 < gR k y then gR k y - 31 else gR k y
theorem Gau_ok (k y : Int) (w : World) (h : Fit k y) :
    Calls Tryz.prog 186 #[.int .i64 k, .int .i64 y] w fun e w' => e = .returned (.tuple #[.agg #[.int .i64 y, .int .i64 (gMo k y), .int .i64 (gDa k y)], .int .i64 0]) ∧ Kept w w' := by
  obtain ⟨hD1, hD2⟩ := gD_range k y
  obtain ⟨hE1, hE2⟩ := gE_range k y
  have hR : gR k y = if 0 < gX k y then 22 + gD k y + gE k y - 7 else 22 + gD k y + gE k y := rfl
  have hMo : gMo k y = if 31 < gR k y then 4 else 3 := rfl
  have hDa : gDa k y = if 31 < gR k y then gR k y - 31 else gR k y := rfl
  by_cases hx : 0 < gX k y
  · rw [if_pos hx] at hR
    by_cases hr : 31 < 22 + gD k y + gE k y - 7
    · rw [hR, if_pos hr] at hMo hDa
      have HMo := Lib.hid hMo
      have HDa := Lib.hid hDa
      clear hMo hDa hR
      go_enter Tryz.func186, Tryz.ntmps186
      go_wp2_with fail
      (go_at_call 236; refine (grun_ok _ _ _ h).mono ?_; rintro e w1 ⟨rfl, rfl⟩)
      go_wp2
      go_region
      go_wp2
      exact bodyPost_ret (v := .tuple #[.agg #[.int .i64 y, .int .i64 4, .int .i64 (22 + gD k y + gE k y - 7 - 31)], .int .i64 0]) (by simp [results, Tryz.results186, go_sem, *]) rfl ⟨by rw [HMo.out, HDa.out], (by repeat (first | with_reducible exact Kept.refl _ | with_reducible assumption | with_reducible refine Kept.drew ?_ | with_reducible refine Kept.drewN ?_ _ | with_reducible refine Kept.alloc ?_ _ | (with_reducible refine Kept.setCell ?_ (by first | exact Nat.le_refl _ | omega | (simp; done) | (simp; omega)) _) | (with_reducible refine Kept.trans ?_ (by with_reducible assumption))))⟩
    · rw [hR, if_neg hr] at hMo hDa
      have HMo := Lib.hid hMo
      have HDa := Lib.hid hDa
      clear hMo hDa hR
      go_enter Tryz.func186, Tryz.ntmps186
      go_wp2_with fail
      (go_at_call 236; refine (grun_ok _ _ _ h).mono ?_; rintro e w1 ⟨rfl, rfl⟩)
      go_wp2
      go_region
      go_wp2
      exact bodyPost_ret (v := .tuple #[.agg #[.int .i64 y, .int .i64 3, .int .i64 (22 + gD k y + gE k y - 7)], .int .i64 0]) (by simp [results, Tryz.results186, go_sem, *]) rfl ⟨by rw [HMo.out, HDa.out], (by repeat (first | with_reducible exact Kept.refl _ | with_reducible assumption | with_reducible refine Kept.drew ?_ | with_reducible refine Kept.drewN ?_ _ | with_reducible refine Kept.alloc ?_ _ | (with_reducible refine Kept.setCell ?_ (by first | exact Nat.le_refl _ | omega | (simp; done) | (simp; omega)) _) | (with_reducible refine Kept.trans ?_ (by with_reducible assumption))))⟩
  · rw [if_neg hx] at hR
    by_cases hr : 31 < 22 + gD k y + gE k y
    · rw [hR, if_pos hr] at hMo hDa
      have HMo := Lib.hid hMo
      have HDa := Lib.hid hDa
      clear hMo hDa hR
      go_enter Tryz.func186, Tryz.ntmps186
      go_wp2_with fail
      (go_at_call 236; refine (grun_ok _ _ _ h).mono ?_; rintro e w1 ⟨rfl, rfl⟩)
      go_wp2
      go_region
      go_wp2
      exact bodyPost_ret (v := .tuple #[.agg #[.int .i64 y, .int .i64 4, .int .i64 (22 + gD k y + gE k y - 31)], .int .i64 0]) (by simp [results, Tryz.results186, go_sem, *]) rfl ⟨by rw [HMo.out, HDa.out], (by repeat (first | with_reducible exact Kept.refl _ | with_reducible assumption | with_reducible refine Kept.drew ?_ | with_reducible refine Kept.drewN ?_ _ | with_reducible refine Kept.alloc ?_ _ | (with_reducible refine Kept.setCell ?_ (by first | exact Nat.le_refl _ | omega | (simp; done) | (simp; omega)) _) | (with_reducible refine Kept.trans ?_ (by with_reducible assumption))))⟩
    · rw [hR, if_neg hr] at hMo hDa
      have HMo := Lib.hid hMo
      have HDa := Lib.hid hDa
      clear hMo hDa hR
      go_enter Tryz.func186, Tryz.ntmps186
      go_wp2_with fail
      (go_at_call 236; refine (grun_ok _ _ _ h).mono ?_; rintro e w1 ⟨rfl, rfl⟩)
      go_wp2
      go_region
      go_wp2
      exact bodyPost_ret (v := .tuple #[.agg #[.int .i64 y, .int .i64 3, .int .i64 (22 + gD k y + gE k y)], .int .i64 0]) (by simp [results, Tryz.results186, go_sem, *]) rfl ⟨by rw [HMo.out, HDa.out], (by repeat (first | with_reducible exact Kept.refl _ | with_reducible assumption | with_reducible refine Kept.drew ?_ | with_reducible refine Kept.drewN ?_ _ | with_reducible refine Kept.alloc ?_ _ | (with_reducible refine Kept.setCell ?_ (by first | exact Nat.le_refl _ | omega | (simp; done) | (simp; omega)) _) | (with_reducible refine Kept.trans ?_ (by with_reducible assumption))))⟩
end Go.Proofs.YtblaphkaklocfaaGreatDoor
/- (without the reference) Contracts: butcher and its reference. -/
namespace Go.Proofs.YtblaphkaklocfaaGreatDoor
open Go.ChangeShapes Go.WideShapes Go.ChangeAt Go.RowKit
set_option maxHeartbeats 400000
theorem eql_nilFunc (w : World) : (binOp .eql 40 .nilFunc .nilFunc).run Tryz.prog w = .ok (.bool true) w := by kernel_rfl
theorem eql_func (w : World) (n : Fn) : (binOp .eql 40 (.func n #[] #[]) .nilFunc).run Tryz.prog w = .ok (.bool false) w := by kernel_rfl
attribute [local go_sem] eql_nilFunc eql_func

def bJ (y : Int) : Int := (19 * (y % 19) + 15) % 30 + (2 * (y % 4) + 4 * (y % 7) - (19 * (y % 19) + 15) % 30 + 34) % 7 + 114
def bH (y : Int) : Int := (19 * (y % 19) + y / 100 - y / 100 / 4 - (y / 100 - (y / 100 + 8) / 25 + 1) / 3 + 15) % 30
def bL (y : Int) : Int := (32 + 2 * (y / 100 % 4) + 2 * (y % 100 / 4) - bH y - y % 4) % 7
def bG (y : Int) : Int := bH y + bL y - 7 * ((y % 19 + 11 * bH y + 22 * bL y) / 451) + 114
theorem bJ_bounds (y : Int) : 114 ≤ bJ y ∧ bJ y ≤ 149 := by unfold bJ; omega
theorem bH_bounds (y : Int) : 0 ≤ bH y ∧ bH y ≤ 29 := by unfold bH; omega
theorem bL_bounds (y : Int) : 0 ≤ bL y ∧ bL y ≤ 6 := by unfold bL; omega
theorem bG_bounds (y : Int) : 107 ≤ bG y ∧ bG y ≤ 149 := by
  have := bH_bounds y
  have := bL_bounds y
  unfold bG; omega
/-- The number of a year by the closed forms. -/
def bN (k y : Int) : Int := if k = 1 then bJ y else bG y

theorem bN_bounds (k y : Int) : 107 ≤ bN k y ∧ bN k y ≤ 149 := by
  have := bJ_bounds y
  have := bG_bounds y
  unfold bN; split <;> omega

theorem pair_any (a b : Int) (w : World) (ha : 0 ≤ a) (ha' : a ≤ 4611686018427387904) (hb : 1 ≤ b) (hb' : b ≤ 4611686018427387904) :
    Calls Tryz.prog 238 #[.int .i64 a, .int .i64 b] w fun e w' => e = .returned (.tuple #[.int .i64 (a / b), .int .i64 (a % b)]) ∧ w.drew = w' := by
  go_enter Tryz.func238, Tryz.ntmps238
  go_wp2
  go_region
  go_wp2
  go_ret2
  exact ⟨rfl, rfl⟩

theorem julian_any (y : Int) (w : World) (h : 1 ≤ y) (h' : y ≤ 1000000000) :
    Calls Tryz.prog 278 #[.int .i64 y] w fun e w' => e = .returned (.int .i64 (bJ y)) ∧ w = w' := by
  go_enter Tryz.func278, Tryz.ntmps278
  go_wp2
  go_ret
  exact ⟨rfl, rfl⟩

theorem gregorian_any (y : Int) (w : World) (h : 1583 ≤ y) (h' : y ≤ 1000000000) :
    Calls Tryz.prog 279 #[.int .i64 y] w fun e w' => e = .returned (.int .i64 (bG y)) ∧ Kept w w' := by
  have hH := bH_bounds y
  have hL := bL_bounds y
  unfold bL bH at hL
  unfold bH at hH
  go_enter Tryz.func279, Tryz.ntmps279
  go_wp2_with (go_at_call 238; refine (pair_any _ _ _ (by omega) (by omega) (by omega) (by omega)).mono ?_; rintro e w' ⟨rfl, rfl⟩)
  go_ret
  exact ⟨rfl, (by repeat (first | with_reducible exact Kept.refl _ | with_reducible assumption | with_reducible refine Kept.drew ?_ | with_reducible refine Kept.drewN ?_ _ | with_reducible refine Kept.alloc ?_ _ | (with_reducible refine Kept.setCell ?_ (by first | exact Nat.le_refl _ | omega | (simp; done) | (simp; omega)) _) | (with_reducible refine Kept.trans ?_ (by with_reducible assumption))))⟩

theorem Number_arg (k y : Int) (w : World) (h : k < 1 ∨ 2 < k) :
    Calls Tryz.prog 237 #[.int .i64 k, .int .i64 y] w fun e w' => e = .returned (.tuple #[.int .i64 0, .int .i64 3]) ∧ Kept w w' := by
  rcases h with h | h
  all_goals
    go_enter Tryz.func237, Tryz.ntmps237
    go_wp2
    go_ret2
    exact ⟨rfl, (by repeat (first | with_reducible exact Kept.refl _ | with_reducible assumption | with_reducible refine Kept.drew ?_ | with_reducible refine Kept.drewN ?_ _ | with_reducible refine Kept.alloc ?_ _ | (with_reducible refine Kept.setCell ?_ (by first | exact Nat.le_refl _ | omega | (simp; done) | (simp; omega)) _) | (with_reducible refine Kept.trans ?_ (by with_reducible assumption))))⟩
theorem Number_off (k y : Int) (w : World) (h : Off k y) :
    Calls Tryz.prog 237 #[.int .i64 k, .int .i64 y] w fun e w' => e = .returned (.tuple #[.int .i64 0, .int .i64 1]) ∧ Kept w w' := by
  unfold Off at h
  rcases h with ⟨rfl, h | h⟩ | ⟨rfl, h | h⟩
  all_goals
    go_enter Tryz.func237, Tryz.ntmps237
    go_wp2
    go_ret2
    exact ⟨rfl, (by repeat (first | with_reducible exact Kept.refl _ | with_reducible assumption | with_reducible refine Kept.drew ?_ | with_reducible refine Kept.drewN ?_ _ | with_reducible refine Kept.alloc ?_ _ | (with_reducible refine Kept.setCell ?_ (by first | exact Nat.le_refl _ | omega | (simp; done) | (simp; omega)) _) | (with_reducible refine Kept.trans ?_ (by with_reducible assumption))))⟩
theorem Number_ok (k y : Int) (w : World) (h : Fit k y) :
    Calls Tryz.prog 237 #[.int .i64 k, .int .i64 y] w fun e w' => e = .returned (.tuple #[.int .i64 (bN k y), .int .i64 0]) ∧ Kept w w' := by
  unfold Fit at h
  rcases h with ⟨⟨rfl, h⟩ | ⟨rfl, h⟩, h'⟩
  all_goals
    go_enter Tryz.func237, Tryz.ntmps237
    go_wp2_with (first | (go_at_call 279; refine (gregorian_any _ _ h h').mono ?_; rintro e w1 ⟨rfl, hk1⟩) | (go_at_call 278; refine (julian_any _ _ h h').mono ?_; rintro e w1 ⟨rfl, rfl⟩) | (go_at_call 267; go_in))
    go_ret2
    exact ⟨rfl, (by repeat (first | with_reducible exact Kept.refl _ | with_reducible assumption | with_reducible refine Kept.drew ?_ | with_reducible refine Kept.drewN ?_ _ | with_reducible refine Kept.alloc ?_ _ | (with_reducible refine Kept.setCell ?_ (by first | exact Nat.le_refl _ | omega | (simp; done) | (simp; omega)) _) | (with_reducible refine Kept.trans ?_ (by with_reducible assumption))))⟩
theorem But_arg (k y : Int) (w : World) (h : k < 1 ∨ 2 < k) :
    Calls Tryz.prog 187 #[.int .i64 k, .int .i64 y] w fun e w' => e = .returned (.tuple #[.agg #[.int .i64 0, .int .i64 0, .int .i64 0], .int .i64 3]) ∧ Kept w w' := by
  go_enter Tryz.func187, Tryz.ntmps187
  go_wp2_with (go_at_call 237; refine (Number_arg _ _ _ h).mono ?_; rintro e w1 ⟨rfl, hk1⟩; obtain ⟨hc1, hf1⟩ := kept_cells hk1; have hz1 : w.heap.size < w1.heap.size := (by have := hk1.size; simp at this; omega))
  exact bodyPost_ret (v := .tuple #[.agg #[.int .i64 0, .int .i64 0, .int .i64 0], .int .i64 3]) (by simp [results, Tryz.results187, go_sem, *]) rfl ⟨rfl, (by repeat (first | with_reducible exact Kept.refl _ | with_reducible assumption | with_reducible refine Kept.drew ?_ | with_reducible refine Kept.drewN ?_ _ | with_reducible refine Kept.alloc ?_ _ | (with_reducible refine Kept.setCell ?_ (by first | exact Nat.le_refl _ | omega | (simp; done) | (simp; omega)) _) | (with_reducible refine Kept.trans ?_ (by with_reducible assumption))))⟩

theorem But_off (k y : Int) (w : World) (h : Off k y) :
    Calls Tryz.prog 187 #[.int .i64 k, .int .i64 y] w fun e w' => e = .returned (.tuple #[.agg #[.int .i64 0, .int .i64 0, .int .i64 0], .int .i64 1]) ∧ Kept w w' := by
  go_enter Tryz.func187, Tryz.ntmps187
  go_wp2_with (go_at_call 237; refine (Number_off _ _ _ h).mono ?_; rintro e w1 ⟨rfl, hk1⟩; obtain ⟨hc1, hf1⟩ := kept_cells hk1; have hz1 : w.heap.size < w1.heap.size := (by have := hk1.size; simp at this; omega))
  exact bodyPost_ret (v := .tuple #[.agg #[.int .i64 0, .int .i64 0, .int .i64 0], .int .i64 1]) (by simp [results, Tryz.results187, go_sem, *]) rfl ⟨rfl, (by repeat (first | with_reducible exact Kept.refl _ | with_reducible assumption | with_reducible refine Kept.drew ?_ | with_reducible refine Kept.drewN ?_ _ | with_reducible refine Kept.alloc ?_ _ | (with_reducible refine Kept.setCell ?_ (by first | exact Nat.le_refl _ | omega | (simp; done) | (simp; omega)) _) | (with_reducible refine Kept.trans ?_ (by with_reducible assumption))))⟩

theorem But_ok (k y : Int) (w : World) (h : Fit k y) :
    Calls Tryz.prog 187 #[.int .i64 k, .int .i64 y] w fun e w' => e = .returned (.tuple #[.agg #[.int .i64 y, .int .i64 (bN k y / 31), .int .i64 (bN k y % 31 + 1)], .int .i64 0]) ∧ Kept w w' := by
  have hN := bN_bounds k y
  go_enter Tryz.func187, Tryz.ntmps187
  go_wp2_with (first | (go_at_call 237; refine (Number_ok _ _ _ h).mono ?_; rintro e w1 ⟨rfl, hk1⟩; obtain ⟨hc1, hf1⟩ := kept_cells hk1; have hz1 : w.heap.size < w1.heap.size := (by have := hk1.size; simp at this; omega)) | (go_at_call 238; refine (pair_any _ _ _ (by omega) (by omega) (by omega) (by omega)).mono ?_; rintro e w1 ⟨rfl, rfl⟩))
  exact bodyPost_ret (v := .tuple #[.agg #[.int .i64 y, .int .i64 (bN k y / 31), .int .i64 (bN k y % 31 + 1)], .int .i64 0]) (by simp [results, Tryz.results187, go_sem, *]) rfl ⟨rfl, (by repeat (first | with_reducible exact Kept.refl _ | with_reducible assumption | with_reducible refine Kept.drew ?_ | with_reducible refine Kept.drewN ?_ _ | with_reducible refine Kept.alloc ?_ _ | (with_reducible refine Kept.setCell ?_ (by first | exact Nat.le_refl _ | omega | (simp; done) | (simp; omega)) _) | (with_reducible refine Kept.trans ?_ (by with_reducible assumption))))⟩
end Go.Proofs.YtblaphkaklocfaaGreatDoor
/- Plain: the tables, the method of Gauss and the closed forms have the same result. -/
namespace Go.Proofs.YtblaphkaklocfaaGreatDoor

theorem ep_gD (k y : Int) (h : Fit k y) : epN k y = (22 - gD k y) % 30 + 1 := by
  unfold epN epR gD gM glN luN soN
  rcases h with ⟨⟨rfl, h1⟩ | ⟨rfl, h1⟩, h2⟩
  · rw [if_pos rfl, if_pos rfl]
    omega
  · rw [if_neg (by decide), if_neg (by decide)]
    have e1 : (8 * (y / 100 + 1) + 5) / 25 = (13 + 8 * (y / 100)) / 25 := by omega
    have e2 : 3 * (y / 100 + 1) / 4 = y / 100 - y / 100 / 4 := by omega
    rw [e1, e2]
    clear e1 e2
    generalize (13 + 8 * (y / 100)) / 25 = p
    omega
/-- How much earlier than 21 March + D the full moon of the tables is. -/
def early (k y : Int) : Int := if gD k y = 29 then 1 else if gD k y = 28 ∧ 11 ≤ y % 19 then 1 else 0
theorem moonI_gauss (k y : Int) (h : Fit k y) : moonI k y = gD k y - early k y := by
  have h1 := ep_gD k y h
  have h2 := gD_range k y
  unfold moonI labN early
  rw [h1]
  unfold glN
  generalize gD k y = D at *
  clear h1
  by_cases a : D ≤ 22
  · have e : (22 - D) % 30 + 1 = 23 - D := by omega
    rw [e, if_neg (by omega), if_neg (by omega), if_neg (by omega)]
    unfold offL
    rw [if_pos (by omega)]
    omega
  · have e : (22 - D) % 30 + 1 = 53 - D := by omega
    rw [e]
    by_cases b : D = 29
    · subst b
      rw [if_neg (by omega), if_pos rfl]
      decide
    · rw [if_neg b]
      by_cases c : D = 28
      · subst c
        by_cases g : 11 ≤ y % 19
        · rw [if_pos (by omega), if_pos (by omega)]
          decide
        · rw [if_neg (by omega), if_neg (by omega)]
          decide
      · rw [if_neg (by omega), if_neg (by omega)]
        unfold offL
        rw [if_neg (by omega), if_neg (by omega), if_neg (by omega)]
        omega
theorem week_gE (k y : Int) (h : Fit k y) : (eqN k y + 1 + gD k y + gE k y) % 7 = 0 := by
  rw [eqN_val]
  unfold gE gN fst
  generalize gD k y = D
  have e0 : y + 1 - 1 = y := by omega
  rw [e0]
  rcases h with ⟨⟨rfl, h1⟩ | ⟨rfl, h1⟩, h2⟩
  · rw [if_pos rfl, if_pos rfl]
    omega
  · rw [if_neg (by decide), if_neg (by decide)]
    have e1 : y / 400 = y / 100 / 4 := by omega
    rw [e1]
    omega
theorem gX_early (k y : Int) (h : Fit k y) : (0 < gX k y ↔ early k y = 1 ∧ gE k y = 6) ∧ 0 ≤ early k y ∧ early k y ≤ 1 := by
  have hD := gD_range k y
  refine ⟨?_, by unfold early; split <;> (try split) <;> omega⟩
  rcases h with ⟨⟨rfl, h1⟩ | ⟨rfl, h1⟩, h2⟩
  · have a1 : gD 1 y ≠ 29 := by unfold gD gM; rw [if_pos rfl]; omega
    have a2 : gD 1 y = 28 → ¬ 11 ≤ y % 19 := by unfold gD gM; rw [if_pos rfl]; omega
    have a3 : early 1 y = 0 := by unfold early; rw [if_neg a1, if_neg (fun g => a2 g.1 g.2)]
    rw [a3]
    unfold gX
    rw [if_neg (fun g => absurd g.1 (by decide))]
    omega
  · have hM := gM_range 2 y ⟨.inr ⟨rfl, h1⟩, h2⟩
    have a1 : gD 2 y = 28 → ((11 * gM 2 y + 11) % 30 < 19 ↔ 11 ≤ y % 19) := by
      unfold gD
      generalize gM 2 y = M at *
      intro g
      have b1 : 0 ≤ y % 19 := by omega
      have b2 : y % 19 ≤ 18 := by omega
      generalize y % 19 = a at *
      have e1 : 11 * M + 11 = 19 + a + 30 * (10 - 7 * a + 11 * ((19 * a + M) / 30)) := by omega
      rw [e1, Int.add_mul_emod_self_left]
      omega
    have b3 : (2 : Int) = 2 := rfl
    unfold gX early
    by_cases e6 : gE 2 y = 6
    · rw [if_pos ⟨rfl, e6⟩]
      by_cases c : gD 2 y = 29
      · rw [if_pos c, if_pos c]; omega
      · rw [if_neg c, if_neg c]
        by_cases d : gD 2 y = 28
        · have := a1 d
          by_cases f : 11 ≤ y % 19
          · rw [if_pos ⟨d, this.2 f⟩, if_pos ⟨d, f⟩]; omega
          · rw [if_neg (fun g => f (this.1 g.2)), if_neg (fun g => f g.2)]; omega
        · rw [if_neg (fun g => d g.1), if_neg (fun g => d g.1)]; omega
    · rw [if_neg (fun g => e6 g.2)]; omega
/-- Easter by the method of Gauss. -/
theorem eas_gauss (k y : Int) (h : Fit k y) : easI k y = gR k y - 21 := by
  have h1 := moonI_gauss k y h
  have h2 := week_gE k y h
  obtain ⟨h3, h4, h5⟩ := gX_early k y h
  have h6 := gE_range k y
  have h7 := gD_range k y
  unfold easI gR
  rw [h1]
  by_cases hx : 0 < gX k y
  · rw [if_pos hx]
    have := h3.1 hx
    omega
  · rw [if_neg hx]
    have : ¬ (early k y = 1 ∧ gE k y = 6) := fun g => hx (h3.2 g)
    omega
theorem g_date (k y : Int) (h : Fit k y) : gMo k y = dmo (easI k y) ∧ gDa k y = dda (easI k y) := by
  rw [eas_gauss k y h]
  unfold gMo gDa dmo dda
  by_cases a : 31 < gR k y
  · rw [if_pos a, if_pos a, if_neg (by omega), if_neg (by omega)]
    omega
  · rw [if_neg a, if_neg a, if_pos (by omega), if_pos (by omega)]
    omega
theorem sun25 (b : Int) (h : 0 ≤ b) : (b - (b + 8) / 25 + 1) / 3 = (13 + 8 * b) / 25 := by
  obtain ⟨f, r, rfl, r1, r2⟩ : ∃ f r, b = 25 * f - 8 + r ∧ 0 ≤ r ∧ r ≤ 24 := ⟨(b + 8) / 25, (b + 8) % 25, by omega, by omega, by omega⟩
  have e1 : (25 * f - 8 + r + 8) / 25 = f := by omega
  rw [e1]
  omega
theorem bN_eas (k y : Int) (h : Fit k y) : bN k y = 113 + easI k y := by
  have h0 := eas_gauss k y h
  obtain ⟨h3, h4, h5⟩ := gX_early k y h
  have h6 := gE_range k y
  have h7 := gD_range k y
  rw [h0]
  unfold bN gR
  rcases id h with ⟨⟨rfl, h1⟩ | ⟨rfl, h1⟩, h2⟩
  · rw [if_pos rfl]
    have a3 : gX 1 y = 0 := by unfold gX; rw [if_neg (fun g => absurd g.1 (by decide))]
    rw [a3, if_neg (by omega)]
    have d1 : gD 1 y = (19 * (y % 19) + 15) % 30 := by unfold gD gM; rw [if_pos rfl]
    have d2 : gE 1 y = (2 * (y % 4) + 4 * (y % 7) - gD 1 y + 34) % 7 := by unfold gE gN; rw [if_pos rfl]; omega
    unfold bJ
    rw [← d1, ← d2]
    omega
  · rw [if_neg (by decide)]
    have d1 : bH y = gD 2 y := by
      unfold bH gD gM
      rw [if_neg (by decide), sun25 (y / 100) (by omega)]
      omega
    have d2 : bL y = gE 2 y := by
      unfold bL gE gN
      rw [if_neg (by decide), d1]
      generalize gD 2 y = D
      have e1 : y = 100 * (y / 100) + y % 100 := by omega
      have e2 : y % 4 = y % 100 % 4 := by omega
      have e3 : y % 7 = (2 * (y / 100) + y % 100) % 7 := by omega
      rw [e2, e3]
      generalize y / 100 = b
      generalize y % 100 = c
      omega
    have d3 : (y % 19 + 11 * gD 2 y + 22 * gE 2 y) / 451 = if early 2 y = 1 ∧ gE 2 y = 6 then 1 else 0 := by
      have b1 : 0 ≤ y % 19 := by omega
      have b2 : y % 19 ≤ 18 := by omega
      unfold early
      generalize y % 19 = a at *
      generalize gD 2 y = D at *
      generalize gE 2 y = E at *
      clear h3 h4 h5 h0
      by_cases c : D = 29
      · rw [if_pos c]
        split <;> omega
      · rw [if_neg c]
        by_cases d : D = 28 ∧ 11 ≤ a
        · rw [if_pos d]
          split <;> omega
        · rw [if_neg d]
          rw [if_neg (by omega)]
          omega
    unfold bG
    rw [d1, d2, d3]
    by_cases hx : early 2 y = 1 ∧ gE 2 y = 6
    · rw [if_pos hx, if_pos (h3.2 hx)]
      omega
    · rw [if_neg hx, if_neg (fun g => hx (h3.1 g))]
      omega
theorem b_date (k y : Int) (h : Fit k y) : bN k y / 31 = dmo (easI k y) ∧ bN k y % 31 + 1 = dda (easI k y) := by
  have h1 := easI_bounds k y
  rw [bN_eas k y h]
  unfold dmo dda
  generalize easI k y = i at *
  by_cases a : i ≤ 10
  · rw [if_pos a, if_pos a]; omega
  · rw [if_neg a, if_neg a]; omega
end Go.Proofs.YtblaphkaklocfaaGreatDoor

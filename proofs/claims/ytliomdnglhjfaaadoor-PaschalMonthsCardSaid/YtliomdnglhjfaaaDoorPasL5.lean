/- PaschalMonths. -/
import Derived.Test.YtliomdnglhjfaaaDoorPasAw
import Derived.Test.YtliomdnglhjfaaaDoorLaidG
import Derived.Test.YtliomdnglhjfaaaDoorHead
set_option linter.unusedSimpArgs false
set_option linter.unusedVariables false
set_option linter.unusedSectionVars false
namespace Go.Proofs.YtliomdnglhjfaaaDoor
open Go.ChangeShapes Go.WideShapes Go.ChangeAt Go.RowKit
set_option maxHeartbeats 1000000
set_option maxRecDepth 20000

/-- Each date and the next one are as many days apart as the law says. -/
def apart2 : List (Int × Int) → Bool
  | p :: q :: t => decide (Ex p.1 p.2 ∧ Ex q.1 q.2 ∧ 29 ≤ dayN q.1 q.2 - dayN p.1 p.2 ∧ dayN q.1 q.2 - dayN p.1 p.2 ≤ 30) && apart2 (q :: t)
  | _ => true
theorem apart_all : ∀ l : Fin 32, 1 ≤ l.val → (12 ≤ (bearsL (l.val : Int) dayList).length ∧ (bearsL (l.val : Int) dayList).length ≤ 13) ∧ apart2 (bearsL (l.val : Int) dayList) = true := by decide +kernel
theorem apart_get (L : List (Int × Int)) (h : apart2 L = true) (i : Nat) (hi : i + 1 < L.length) : Ex (L[i]!).1 (L[i]!).2 ∧ Ex (L[i + 1]!).1 (L[i + 1]!).2 ∧ 29 ≤ dayN (L[i + 1]!).1 (L[i + 1]!).2 - dayN (L[i]!).1 (L[i]!).2 ∧ dayN (L[i + 1]!).1 (L[i + 1]!).2 - dayN (L[i]!).1 (L[i]!).2 ≤ 30 := by
  induction L generalizing i with
  | nil => simp at hi
  | cons p t ih =>
    cases t with
    | nil => simp at hi
    | cons q t =>
      unfold apart2 at h
      rw [Bool.and_eq_true, decide_eq_true_eq] at h
      cases i with
      | zero => simpa using h.1
      | succ i => simpa using ih h.2 i (by simpa using hi)
theorem ok_of_ex (k y m d : Int) (h : Ex m d) (h1 : 1 ≤ y) (h2 : y ≤ 1000000000) : OkD k y m d ∧ num k y m d = fst k y + dayN m d + (if 2 < m then (if lp k y then 1 else 0) else 0) := by
  obtain ⟨a, b, c, d'⟩ := h
  have hl : mlen false m ≤ mlen (lp k y) m := by
    cases lp k y with
    | false => exact Int.le_refl _
    | true => rcases month_cases m a b with rfl | rfl | rfl | rfl | rfl | rfl | rfl | rfl | rfl | rfl | rfl | rfl <;> decide
  refine ⟨⟨h1, h2, a, b, c, by omega⟩, ?_⟩
  unfold num dayN
  have c1 : cum (lp k y) m = cum false m + (if 2 < m then (if lp k y then 1 else 0) else 0) := by
    cases lp k y with
    | false => simp
    | true => rcases month_cases m a b with rfl | rfl | rfl | rfl | rfl | rfl | rfl | rfl | rfl | rfl | rfl | rfl <;> decide
  rw [c1]
  omega
theorem rDay_ex (k y m d : Int) (w : World) (hf : Fit k y) (h : Ex m d) :
    Calls Tryd.prog 26 #[.int .i64 k, .agg #[.int .i64 y, .int .i64 m, .int .i64 d]] w fun e w' => e = .returned (.tuple #[.int .i64 (num k y m d), .int .i64 0]) ∧ Kept w w' := by
  obtain ⟨a, b, c⟩ := fit_cal k y hf
  obtain ⟨o, _⟩ := ok_of_ex k y m d h b c
  have := refToDay_all k y m d w
  rcases c_cases k y m d with ⟨_, _, e1, e2⟩ | ⟨_, _, _, n⟩
  · rwa [e1, e2] at this
  · exact absurd ⟨a, o⟩ n
theorem dayN_m (m d : Int) (h : Ex m d) : (m ≤ 2 → dayN m d ≤ 58) ∧ (2 < m → 59 ≤ dayN m d) := by
  obtain ⟨a, b, c, d'⟩ := h
  have h2 : cum false 2 = 31 := by decide
  have h3 : mlen false 2 = 28 := by decide
  unfold dayN
  refine ⟨fun g => ?_, fun g => ?_⟩
  · rcases (show m = 1 ∨ m = 2 by omega) with rfl | rfl
    · have h4 : cum false 1 = 0 := by decide
      have h5 : mlen false 1 = 31 := by decide
      omega
    · omega
  · have := cum_mono false 2 m (by decide) g (by omega)
    omega
theorem rLeap5_any (c y : Int) (w : World) (h : -9223372036854775808 ≤ y) (h' : y ≤ 9223372036854775807) :
    Calls Tryd.prog 33 #[.int .i64 c, .int .i64 y] w fun e w' => e = .returned (.bool (lp c y)) ∧ w = w' := refLeap_any c y w h h'
set_option maxHeartbeats 4000000 in
theorem PaschalMonths_walk (c y t : Int) (bc : 0 ≤ c ∧ c ≤ 255) (by0 : -9223372036854775808 ≤ y ∧ y ≤ 9223372036854775807) (bt : 0 ≤ t ∧ t ≤ 255) (w : World) (hT : RTab w) :
    Calls Tryd.prog 7 #[.int .u8 c, .int .i64 y, .int .u8 t] w fun e w' => e = .returned (.bool true) ∧ Kept w w' := by
  obtain ⟨bc1, bc2⟩ := bc
  obtain ⟨by1, by2⟩ := by0
  obtain ⟨bt1, bt2⟩ := bt
  have KT := Lib.hid (fun w' (k : Kept w w') => hT.kept k)
  clear hT
  rcases fl_cases (1 + c % 2) y with ⟨h, e0⟩ | ⟨h, e0⟩ | ⟨h, e0⟩
  · have KA := Lib.hid (fun w hT => Table_any (1 + c % 2) y w hT (fit_sm _ _ h))
    rw [e0, if_pos rfl] at KA
    have KF := Lib.hid (fun w => Fails_ok (1 + c % 2) y w h)
    have hlb := labN_bounds (1 + c % 2) y
    have hap := apart_all ⟨(labN (1 + c % 2) y).toNat, by omega⟩ (by show 1 ≤ (labN (1 + c % 2) y).toNat; omega)
    simp only [Int.toNat_of_nonneg (show 0 ≤ labN (1 + c % 2) y by omega)] at hap
    have KR := Lib.hid (fun m d w (hx : Ex m d) => rDay_ex (1 + c % 2) y m d w h hx)
    have hy := fit_cal _ y h
    have KN := Lib.hid (fun m d (hx : Ex m d) => ok_of_ex (1 + c % 2) y m d hx hy.2.1 hy.2.2)
    have KP := Lib.hid (fun w => rLeap5_any (1 + c % 2) y w by1 by2)
    have hfb := fst_bounds (1 + c % 2) y hy.2.1 (by omega)
    clear e0 h hlb
    generalize bearsL (labN (1 + c % 2) y) dayList = L at *
    obtain ⟨⟨n1, n2⟩, hap2⟩ := hap
    have HG := Lib.hid (apart_get L hap2)
    clear hap2
    have hI1 := Int.emod_nonneg t (show (L.length : Int) - 1 ≠ 0 by omega)
    have hI2 := Int.emod_lt_of_pos t (show (0 : Int) < (L.length : Int) - 1 by omega)
    have hi2 : (t % ((L.length : Int) - 1)).toNat + 1 < L.length := by omega
    have he1 : (t % ((L.length : Int) - 1)).toNat + 1 = (t % ((L.length : Int) - 1) + 1).toNat := by omega
    obtain ⟨x1, x2, x3, x4⟩ := HG.out _ hi2
    rw [he1] at x2 x3 x4 hi2
    have HX : Hid (∀ w2 o, IsDates w2 o y L → ∃ g, o = some ⟨g, 0, none⟩ ∧ w2.cell? ⟨g, (t % ((L.length : Int) - 1)).toNat * 3, none⟩ = some (.int .i64 y) ∧ w2.cell? ⟨g, (t % ((L.length : Int) - 1)).toNat * 3 + 1, none⟩ = some (.int .i64 (L[(t % ((L.length : Int) - 1)).toNat]!).1) ∧ w2.cell? ⟨g, (t % ((L.length : Int) - 1)).toNat * 3 + 2, none⟩ = some (.int .i64 (L[(t % ((L.length : Int) - 1)).toNat]!).2) ∧ w2.cell? ⟨g, (t % ((L.length : Int) - 1) + 1).toNat * 3, none⟩ = some (.int .i64 y) ∧ w2.cell? ⟨g, (t % ((L.length : Int) - 1) + 1).toNat * 3 + 1, none⟩ = some (.int .i64 (L[(t % ((L.length : Int) - 1) + 1).toNat]!).1) ∧ w2.cell? ⟨g, (t % ((L.length : Int) - 1) + 1).toNat * 3 + 2, none⟩ = some (.int .i64 (L[(t % ((L.length : Int) - 1) + 1).toNat]!).2)) := (show ∀ _ _, _ → _ from fun w2 o hd => by
      obtain ⟨g, ho, q1, q2, q3⟩ := hd (t % ((L.length : Int) - 1)).toNat (by omega)
      obtain ⟨g', ho', r1, r2, r3⟩ := hd (t % ((L.length : Int) - 1) + 1).toNat hi2
      obtain rfl : g' = g := by rw [ho] at ho'; simpa using ho'.symm
      rw [Nat.mul_comm] at q1 q2 q3 r1 r2 r3
      exact ⟨g', ho, q1, q2, q3, r1, r2, r3⟩)
    generalize L[(t % ((L.length : Int) - 1)).toNat]! = p at *
    generalize L[(t % ((L.length : Int) - 1) + 1).toNat]! = p' at *
    obtain ⟨m1, d1⟩ := p
    obtain ⟨m2, d2⟩ := p'
    dsimp only at HX x1 x2 x3 x4
    have KA1 := Lib.hid (fun w => KR.out m1 d1 w x1)
    have KA2 := Lib.hid (fun w => KR.out m2 d2 w x2)
    have v1 := (KN.out m1 d1 x1).2
    have v2 := (KN.out m2 d2 x2).2
    have u1 := dayN_m m1 d1 x1
    have u2 := dayN_m m2 d2 x2
    have s1 := dayN_bounds m1 d1 x1
    have s2 := dayN_bounds m2 d2 x2
    have mb1 : 1 ≤ m1 ∧ m1 ≤ 12 := ⟨x1.1, x1.2.1⟩
    have mb2 : 1 ≤ m2 ∧ m2 ≤ 12 := ⟨x2.1, x2.2.1⟩
    have hcase : (lp (1 + c % 2) y = false ∧ num (1 + c % 2) y m2 d2 - num (1 + c % 2) y m1 d1 = dayN m2 d2 - dayN m1 d1) ∨ (lp (1 + c % 2) y = true ∧ ((2 < m1 ∧ num (1 + c % 2) y m2 d2 - num (1 + c % 2) y m1 d1 = dayN m2 d2 - dayN m1 d1) ∨ (m1 ≤ 2 ∧ m2 ≤ 2 ∧ num (1 + c % 2) y m2 d2 - num (1 + c % 2) y m1 d1 = dayN m2 d2 - dayN m1 d1) ∨ (m1 ≤ 2 ∧ 2 < m2 ∧ num (1 + c % 2) y m2 d2 - num (1 + c % 2) y m1 d1 = dayN m2 d2 - dayN m1 d1 + 1))) := by
      cases hl : lp (1 + c % 2) y with
      | false => rw [hl] at v1 v2; simp at v1 v2; exact .inl ⟨rfl, by omega⟩
      | true =>
        rw [hl] at v1 v2
        simp only [if_true] at v1 v2
        refine .inr ⟨rfl, ?_⟩
        by_cases g1 : 2 < m1
        · have g2 : 2 < m2 := by omega
          rw [if_pos g1] at v1
          rw [if_pos g2] at v2
          exact .inl ⟨g1, by omega⟩
        · rw [if_neg g1] at v1
          by_cases g2 : 2 < m2
          · rw [if_pos g2] at v2
            exact .inr (.inr ⟨by omega, g2, by omega⟩)
          · rw [if_neg g2] at v2
            exact .inr (.inl ⟨by omega, by omega, by omega⟩)
    have nb1 : -10 ≤ num (1 + c % 2) y m1 d1 ∧ num (1 + c % 2) y m1 d1 ≤ 365250000500 := by
      rw [v1]
      have : (0 : Int) ≤ (if 2 < m1 then (if lp (1 + c % 2) y = true then (1 : Int) else 0) else 0) ∧ (if 2 < m1 then (if lp (1 + c % 2) y = true then (1 : Int) else 0) else 0) ≤ 1 := by split <;> (try split) <;> omega
      omega
    clear v1 v2 u1 u2 s1 s2 x1 x2 HG KN KR hy
    generalize num (1 + c % 2) y m1 d1 = na at *
    generalize num (1 + c % 2) y m2 d2 = nb at *
    generalize dayN m1 d1 = D1 at *
    generalize dayN m2 d2 = D2 at *
    generalize lp (1 + c % 2) y = lpv at *
    rcases hcase with ⟨rfl, hv⟩ | ⟨rfl, ⟨g1, hv⟩ | ⟨g1, g2, hv⟩ | ⟨g1, g2, hv⟩⟩
    · go_enter Tryd.func7, Tryd.ntmps7
      go_wp2_with fail
      (go_at_call 19; refine (Pas_awake _ (KT.out _ (by repeat (first | with_reducible exact Kept.refl _ | with_reducible assumption | with_reducible refine Kept.drew ?_ | with_reducible refine Kept.drewN ?_ _ | with_reducible refine Kept.alloc ?_ _ | (with_reducible refine Kept.setCell ?_ (by first | exact Nat.le_refl _ | omega | (simp; done) | (simp; omega)) _) | (with_reducible refine Kept.trans ?_ (by with_reducible assumption)))))).mono ?_; rintro e w1 ⟨rfl, hk1⟩)
      go_wp2_with fail
      (go_at_call 21; refine (KF.out _).mono ?_; rintro e w1 ⟨rfl, rfl⟩)
      go_wp2_with fail
      go_at_call 30
      refine (KA.out _ (KT.out _ (by repeat (first | with_reducible exact Kept.refl _ | with_reducible assumption | with_reducible refine Kept.drew ?_ | with_reducible refine Kept.drewN ?_ _ | with_reducible refine Kept.alloc ?_ _ | (with_reducible refine Kept.setCell ?_ (by first | exact Nat.le_refl _ | omega | (simp; done) | (simp; omega)) _) | (with_reducible refine Kept.trans ?_ (by with_reducible assumption)))))).mono ?_
      rintro e w2 ⟨o, cc, rfl, hd, hk2⟩
      obtain ⟨g, rfl, q1, q2, q3, r1, r2, r3⟩ := HX.out _ _ (hd trivial)
      clear hd
      have K2 := hk1.trans hk2
      have hz := lt_cellL q1
      go_wp2_with fail
      go_at_call 26
      (with_reducible refine (KA1.out _).mono ?_)
      rintro e w3 ⟨rfl, hk3⟩
      have K3 := K2.trans hk3
      have q1' := (hk3.cell _ _ hz).trans q1
      have q2' := (hk3.cell _ _ hz).trans q2
      have q3' := (hk3.cell _ _ hz).trans q3
      have r1' := (hk3.cell _ _ hz).trans r1
      have r2' := (hk3.cell _ _ hz).trans r2
      have r3' := (hk3.cell _ _ hz).trans r3
      clear q1 q2 q3 r1 r2 r3
      have hz3 := lt_cellL q1'
      go_wp2_with fail
      go_at_call 26
      (with_reducible refine (KA2.out _).mono ?_)
      rintro e w4 ⟨rfl, hk4⟩
      have K4 := K3.trans hk4
      have q2 := (hk4.cell _ _ hz3).trans q2'
      have r2 := (hk4.cell _ _ hz3).trans r2'
      clear q1' q2' q3' r1' r2' r3'
      have hz4 := lt_cellL q2
      go_wp2_with fail
      go_at_call 33
      (with_reducible refine (KP.out _).mono ?_)
      rintro e v5 ⟨rfl, rfl⟩
      go_wp2
      go_ret
      exact ⟨rfl, (by repeat (first | with_reducible exact Kept.refl _ | with_reducible assumption | with_reducible refine Kept.drew ?_ | with_reducible refine Kept.drewN ?_ _ | with_reducible refine Kept.alloc ?_ _ | (with_reducible refine Kept.setCell ?_ (by first | exact Nat.le_refl _ | omega | (simp; done) | (simp; omega)) _) | (with_reducible refine Kept.trans ?_ (by with_reducible assumption))))⟩
    · go_enter Tryd.func7, Tryd.ntmps7
      go_wp2_with fail
      (go_at_call 19; refine (Pas_awake _ (KT.out _ (by repeat (first | with_reducible exact Kept.refl _ | with_reducible assumption | with_reducible refine Kept.drew ?_ | with_reducible refine Kept.drewN ?_ _ | with_reducible refine Kept.alloc ?_ _ | (with_reducible refine Kept.setCell ?_ (by first | exact Nat.le_refl _ | omega | (simp; done) | (simp; omega)) _) | (with_reducible refine Kept.trans ?_ (by with_reducible assumption)))))).mono ?_; rintro e w1 ⟨rfl, hk1⟩)
      go_wp2_with fail
      (go_at_call 21; refine (KF.out _).mono ?_; rintro e w1 ⟨rfl, rfl⟩)
      go_wp2_with fail
      go_at_call 30
      refine (KA.out _ (KT.out _ (by repeat (first | with_reducible exact Kept.refl _ | with_reducible assumption | with_reducible refine Kept.drew ?_ | with_reducible refine Kept.drewN ?_ _ | with_reducible refine Kept.alloc ?_ _ | (with_reducible refine Kept.setCell ?_ (by first | exact Nat.le_refl _ | omega | (simp; done) | (simp; omega)) _) | (with_reducible refine Kept.trans ?_ (by with_reducible assumption)))))).mono ?_
      rintro e w2 ⟨o, cc, rfl, hd, hk2⟩
      obtain ⟨g, rfl, q1, q2, q3, r1, r2, r3⟩ := HX.out _ _ (hd trivial)
      clear hd
      have K2 := hk1.trans hk2
      have hz := lt_cellL q1
      go_wp2_with fail
      go_at_call 26
      (with_reducible refine (KA1.out _).mono ?_)
      rintro e w3 ⟨rfl, hk3⟩
      have K3 := K2.trans hk3
      have q1' := (hk3.cell _ _ hz).trans q1
      have q2' := (hk3.cell _ _ hz).trans q2
      have q3' := (hk3.cell _ _ hz).trans q3
      have r1' := (hk3.cell _ _ hz).trans r1
      have r2' := (hk3.cell _ _ hz).trans r2
      have r3' := (hk3.cell _ _ hz).trans r3
      clear q1 q2 q3 r1 r2 r3
      have hz3 := lt_cellL q1'
      go_wp2_with fail
      go_at_call 26
      (with_reducible refine (KA2.out _).mono ?_)
      rintro e w4 ⟨rfl, hk4⟩
      have K4 := K3.trans hk4
      have q2 := (hk4.cell _ _ hz3).trans q2'
      have r2 := (hk4.cell _ _ hz3).trans r2'
      clear q1' q2' q3' r1' r2' r3'
      have hz4 := lt_cellL q2
      go_wp2_with fail
      go_at_call 33
      (with_reducible refine (KP.out _).mono ?_)
      rintro e v5 ⟨rfl, rfl⟩
      go_wp2
      go_ret
      exact ⟨rfl, (by repeat (first | with_reducible exact Kept.refl _ | with_reducible assumption | with_reducible refine Kept.drew ?_ | with_reducible refine Kept.drewN ?_ _ | with_reducible refine Kept.alloc ?_ _ | (with_reducible refine Kept.setCell ?_ (by first | exact Nat.le_refl _ | omega | (simp; done) | (simp; omega)) _) | (with_reducible refine Kept.trans ?_ (by with_reducible assumption))))⟩
    · go_enter Tryd.func7, Tryd.ntmps7
      go_wp2_with fail
      (go_at_call 19; refine (Pas_awake _ (KT.out _ (by repeat (first | with_reducible exact Kept.refl _ | with_reducible assumption | with_reducible refine Kept.drew ?_ | with_reducible refine Kept.drewN ?_ _ | with_reducible refine Kept.alloc ?_ _ | (with_reducible refine Kept.setCell ?_ (by first | exact Nat.le_refl _ | omega | (simp; done) | (simp; omega)) _) | (with_reducible refine Kept.trans ?_ (by with_reducible assumption)))))).mono ?_; rintro e w1 ⟨rfl, hk1⟩)
      go_wp2_with fail
      (go_at_call 21; refine (KF.out _).mono ?_; rintro e w1 ⟨rfl, rfl⟩)
      go_wp2_with fail
      go_at_call 30
      refine (KA.out _ (KT.out _ (by repeat (first | with_reducible exact Kept.refl _ | with_reducible assumption | with_reducible refine Kept.drew ?_ | with_reducible refine Kept.drewN ?_ _ | with_reducible refine Kept.alloc ?_ _ | (with_reducible refine Kept.setCell ?_ (by first | exact Nat.le_refl _ | omega | (simp; done) | (simp; omega)) _) | (with_reducible refine Kept.trans ?_ (by with_reducible assumption)))))).mono ?_
      rintro e w2 ⟨o, cc, rfl, hd, hk2⟩
      obtain ⟨g, rfl, q1, q2, q3, r1, r2, r3⟩ := HX.out _ _ (hd trivial)
      clear hd
      have K2 := hk1.trans hk2
      have hz := lt_cellL q1
      go_wp2_with fail
      go_at_call 26
      (with_reducible refine (KA1.out _).mono ?_)
      rintro e w3 ⟨rfl, hk3⟩
      have K3 := K2.trans hk3
      have q1' := (hk3.cell _ _ hz).trans q1
      have q2' := (hk3.cell _ _ hz).trans q2
      have q3' := (hk3.cell _ _ hz).trans q3
      have r1' := (hk3.cell _ _ hz).trans r1
      have r2' := (hk3.cell _ _ hz).trans r2
      have r3' := (hk3.cell _ _ hz).trans r3
      clear q1 q2 q3 r1 r2 r3
      have hz3 := lt_cellL q1'
      go_wp2_with fail
      go_at_call 26
      (with_reducible refine (KA2.out _).mono ?_)
      rintro e w4 ⟨rfl, hk4⟩
      have K4 := K3.trans hk4
      have q2 := (hk4.cell _ _ hz3).trans q2'
      have r2 := (hk4.cell _ _ hz3).trans r2'
      clear q1' q2' q3' r1' r2' r3'
      have hz4 := lt_cellL q2
      go_wp2_with fail
      go_at_call 33
      (with_reducible refine (KP.out _).mono ?_)
      rintro e v5 ⟨rfl, rfl⟩
      go_wp2
      go_ret
      exact ⟨rfl, (by repeat (first | with_reducible exact Kept.refl _ | with_reducible assumption | with_reducible refine Kept.drew ?_ | with_reducible refine Kept.drewN ?_ _ | with_reducible refine Kept.alloc ?_ _ | (with_reducible refine Kept.setCell ?_ (by first | exact Nat.le_refl _ | omega | (simp; done) | (simp; omega)) _) | (with_reducible refine Kept.trans ?_ (by with_reducible assumption))))⟩
    · go_enter Tryd.func7, Tryd.ntmps7
      go_wp2_with fail
      (go_at_call 19; refine (Pas_awake _ (KT.out _ (by repeat (first | with_reducible exact Kept.refl _ | with_reducible assumption | with_reducible refine Kept.drew ?_ | with_reducible refine Kept.drewN ?_ _ | with_reducible refine Kept.alloc ?_ _ | (with_reducible refine Kept.setCell ?_ (by first | exact Nat.le_refl _ | omega | (simp; done) | (simp; omega)) _) | (with_reducible refine Kept.trans ?_ (by with_reducible assumption)))))).mono ?_; rintro e w1 ⟨rfl, hk1⟩)
      go_wp2_with fail
      (go_at_call 21; refine (KF.out _).mono ?_; rintro e w1 ⟨rfl, rfl⟩)
      go_wp2_with fail
      go_at_call 30
      refine (KA.out _ (KT.out _ (by repeat (first | with_reducible exact Kept.refl _ | with_reducible assumption | with_reducible refine Kept.drew ?_ | with_reducible refine Kept.drewN ?_ _ | with_reducible refine Kept.alloc ?_ _ | (with_reducible refine Kept.setCell ?_ (by first | exact Nat.le_refl _ | omega | (simp; done) | (simp; omega)) _) | (with_reducible refine Kept.trans ?_ (by with_reducible assumption)))))).mono ?_
      rintro e w2 ⟨o, cc, rfl, hd, hk2⟩
      obtain ⟨g, rfl, q1, q2, q3, r1, r2, r3⟩ := HX.out _ _ (hd trivial)
      clear hd
      have K2 := hk1.trans hk2
      have hz := lt_cellL q1
      go_wp2_with fail
      go_at_call 26
      (with_reducible refine (KA1.out _).mono ?_)
      rintro e w3 ⟨rfl, hk3⟩
      have K3 := K2.trans hk3
      have q1' := (hk3.cell _ _ hz).trans q1
      have q2' := (hk3.cell _ _ hz).trans q2
      have q3' := (hk3.cell _ _ hz).trans q3
      have r1' := (hk3.cell _ _ hz).trans r1
      have r2' := (hk3.cell _ _ hz).trans r2
      have r3' := (hk3.cell _ _ hz).trans r3
      clear q1 q2 q3 r1 r2 r3
      have hz3 := lt_cellL q1'
      go_wp2_with fail
      go_at_call 26
      (with_reducible refine (KA2.out _).mono ?_)
      rintro e w4 ⟨rfl, hk4⟩
      have K4 := K3.trans hk4
      have q2 := (hk4.cell _ _ hz3).trans q2'
      have r2 := (hk4.cell _ _ hz3).trans r2'
      clear q1' q2' q3' r1' r2' r3'
      have hz4 := lt_cellL q2
      go_wp2_with fail
      go_at_call 33
      (with_reducible refine (KP.out _).mono ?_)
      rintro e v5 ⟨rfl, rfl⟩
      go_wp2
      go_ret
      exact ⟨rfl, (by repeat (first | with_reducible exact Kept.refl _ | with_reducible assumption | with_reducible refine Kept.drew ?_ | with_reducible refine Kept.drewN ?_ _ | with_reducible refine Kept.alloc ?_ _ | (with_reducible refine Kept.setCell ?_ (by first | exact Nat.le_refl _ | omega | (simp; done) | (simp; omega)) _) | (with_reducible refine Kept.trans ?_ (by with_reducible assumption))))⟩
  · have KF := Lib.hid (fun w => Fails_off (1 + c % 2) y w h)
    clear e0 h
    go_enter Tryd.func7, Tryd.ntmps7
    go_wp2_with fail
    (go_at_call 19; refine (Pas_awake _ (KT.out _ (by repeat (first | with_reducible exact Kept.refl _ | with_reducible assumption | with_reducible refine Kept.drew ?_ | with_reducible refine Kept.drewN ?_ _ | with_reducible refine Kept.alloc ?_ _ | (with_reducible refine Kept.setCell ?_ (by first | exact Nat.le_refl _ | omega | (simp; done) | (simp; omega)) _) | (with_reducible refine Kept.trans ?_ (by with_reducible assumption)))))).mono ?_; rintro e w1 ⟨rfl, hk1⟩)
    go_wp2_with fail
    (go_at_call 21; refine (KF.out _).mono ?_; rintro e w1 ⟨rfl, rfl⟩)
    go_wp2_with fail
    (go_at_call 19; refine (Pas_awake _ (KT.out _ (by repeat (first | with_reducible exact Kept.refl _ | with_reducible assumption | with_reducible refine Kept.drew ?_ | with_reducible refine Kept.drewN ?_ _ | with_reducible refine Kept.alloc ?_ _ | (with_reducible refine Kept.setCell ?_ (by first | exact Nat.le_refl _ | omega | (simp; done) | (simp; omega)) _) | (with_reducible refine Kept.trans ?_ (by with_reducible assumption)))))).mono ?_; rintro e w2 ⟨rfl, hk2⟩)
    go_wp2
    go_ret
    exact ⟨rfl, (by repeat (first | with_reducible exact Kept.refl _ | with_reducible assumption | with_reducible refine Kept.drew ?_ | with_reducible refine Kept.drewN ?_ _ | with_reducible refine Kept.alloc ?_ _ | (with_reducible refine Kept.setCell ?_ (by first | exact Nat.le_refl _ | omega | (simp; done) | (simp; omega)) _) | (with_reducible refine Kept.trans ?_ (by with_reducible assumption))))⟩
  · omega

set_option maxRecDepth 100000 in
theorem PaschalMonths_contract (H : Type) (enc : TypeId × Value → H) (W : World) (base : Nat) (args : Array Value) (ds gs : List (DataW H)) (before : List MemPlace)
    (hval : ∀ (j : Nat) t v, Tryd.f7.params[j]? = some t → args[j]? = some v → Value.okWide Tryd.prog W .any base t v)
    (hW : DataW.Whole enc Tryd.prog Tryd.f7.params.toList Rows.paschalMonthsSpec.vars false W args.toList ds gs before) (hL : laidMetH Tryd.prog Rows.paschalMonthsRow.laid W) :
    Calls Tryd.prog 7 args W fun e W' => ∃ v, e = .returned v ∧ Rows.paschalMonthsSpec.post enc Tryd.prog Tryd.f7 false true false false W args v W' := by
  have hW' := hW
  obtain ⟨p, q, hA0, hV, rfl, hfz, hnd⟩ := hW
  have hA : DataW.TrodAll enc Tryd.prog W 0 (fun _ => true) true Tryd.f7.params.toList args.toList ds p := hA0
  rw [Tryd.params7] at hA hval
  obtain ⟨v0, vs0, d0, ds0, p0, q0, hargs, rfl, rfl, h0, r0⟩ := trodAll_cons hA
  obtain ⟨v1, vs1, d1, ds1, p1, q1, rfl, rfl, rfl, h1, r1⟩ := trodAll_cons r0
  obtain ⟨v2, vs2, d2, ds2, p2, q2, rfl, rfl, rfl, h2, r2⟩ := trodAll_cons r1
  obtain ⟨rfl, rfl, rfl⟩ := trodAll_nil r2
  obtain rfl : args = #[v0, v1, v2] := by cases args; simp_all
  obtain ⟨rfl, rfl⟩ := trodVars_none hV
  obtain ⟨a0, rfl, rfl, rfl, w0⟩ := open_int Tryd.underlying5 (hval 0 5 v0 rfl rfl) h0
  obtain ⟨a1, rfl, rfl, rfl, w1⟩ := open_int Tryd.underlying3 (hval 1 3 v1 rfl rfl) h1
  obtain ⟨a2, rfl, rfl, rfl, w2⟩ := open_int Tryd.underlying5 (hval 2 5 v2 rfl rfl) h2
  clear hA0
  simp only [List.append_nil] at hW'
  refine (PaschalMonths_walk a0 a1 a2 (wf_bounds8 w0) (wf_bounds w1) (wf_bounds8 w2) W (tab_of hL)).mono fun e W' ⟨he, hg⟩ => ?_
  subst he
  exact ⟨_, rfl, post_of_kept (pa := []) (pv := []) hW' (fun _ _ _ => (trodAll_cons_mk (shut_bool Tryd.underlying4 _) trodAll_mk0)) (fun sp _ => (trodAll_cons_mk (shut_int Tryd.underlying5 w0) (trodAll_cons_mk (shut_int Tryd.underlying3 w1) (trodAll_cons_mk (shut_int Tryd.underlying5 w2) trodAll_mk0)))) (fun _ _ => rfl) rfl
    hg (ok_one (by kernel_rfl) rfl (okWide_bool_mk Tryd.underlying4 _))⟩
theorem PaschalMonths_laid (os : Os) : laidMet Tryd.prog Rows.paschalMonthsRow.laid ((laidWorld os).forCall (fun _ _ => 0) ⟨#[], #[.int .u8 0, .int .i64 0, .int .u8 0], []⟩).memory :=
  laidMet_of_run' 8 (by kernel_rfl) (by kernel_rfl)
theorem PaschalMonths_reads (os : Os) {H : Type} (enc : TypeId × Value → H) : ∃ places, DataW.whole enc Tryd.prog ((laidWorld os).forCall (fun _ _ => 0) ⟨#[], #[.int .u8 0, .int .i64 0, .int .u8 0], []⟩).memory Tryd.f7.params.toList Rows.paschalMonthsSpec.vars false (#[.int .u8 0, .int .i64 0, .int .u8 0] : Array Value).toList 8 = some ([.lit (.int .u8 0), .lit (.int .i64 0), .lit (.int .u8 0)], [], places) :=
  ⟨[], by kernel_rfl⟩
set_option maxRecDepth 100000 in
theorem PaschalMonths_lifted (os : Os) (started : os.Started) (H : Type) (enc : TypeId × Value → H) (F : Stop.Interp) :
    ReturnsInHanded {} Tryd.checked os 7 .any ((OpenSpec.ofChange Rows.paschalMonthsSpec).preRow enc Tryd.prog Tryd.f7 Rows.paschalMonthsRow.domain false Rows.paschalMonthsRow.laid) (((OpenSpec.ofChange Rows.paschalMonthsSpec).at F).post enc Tryd.prog Tryd.f7 false true false false) := by
  obtain ⟨places, hx⟩ := PaschalMonths_reads os enc
  refine returnsInHanded_of_row (C := Tryd.checked) (s := OpenSpec.ofChange Rows.paschalMonthsSpec) own_knob started (by kernel_rfl) Tryd.func7
    (witness_row_at (enc := enc) (C := Tryd.checked) false (laidWorld os) #[.int .u8 0, .int .i64 0, .int .u8 0] rfl (by kernel_rfl) (by kernel_rfl) (by kernel_rfl)
      (OpenSpec.preRow_of_cond 8 hx (by kernel_rfl) (fun k hk => by cases hk) (by kernel_rfl) (PaschalMonths_laid os))) ?_
  intro W base args ds gs before hval hW _ _ _ hL _ _
  exact PaschalMonths_contract H enc W base args ds gs before hval hW hL
theorem PaschalMonths_closed : joinedFacts Tryd.pinned.checked.prog 7 Tryd.f7 (OpenSpec.ofChange Rows.paschalMonthsSpec).bare Rows.paschalMonthsRow = true := by
  unfold joinedFacts
  simp only [Bool.and_eq_true]
  repeat' apply And.intro
  all_goals (first | with_reducible exact head_enter | (rw [head_make]; rfl) | (rw [head_final]; rfl) | (as_aux_lemma => kernel_rfl))
theorem PaschalMonths_said : Rows.PaschalMonthsSaid :=
  OpenClaim.holds_of_cond 7 Tryd.f7 rfl rfl rfl rfl rfl rfl rfl ⟨rfl, rfl, rfl, rfl, rfl⟩ rfl rfl rfl rfl rfl (by kernel_rfl) Tryd.func7 PaschalMonths_closed
    (of_decide_eq_true (by kernel_rfl)) (by unfold Func.isWrapper; first | (rw [if_pos (by decide +kernel)]; kernel_rfl) | (rw [if_neg (by decide +kernel)]; exact ⟨rfl, rfl⟩))
    (fun os started H enc _ F => by rw [OpenClaim.pre_eq_preRow]; exact PaschalMonths_lifted os started H enc F)
theorem PaschalMonths_plain (f : FuncId) (fn : Func) (hf : Tryd.pinned.checked.prog.funcNamed "computus/computuslaw09.PaschalMonths" = some f) (hfn : Tryd.pinned.checked.prog.funcs[f]? = some fn) :
    false = Tryd.pinned.checked.prog.looks [] ∧ ∀ (j : Nat) t, fn.params[j]? = some t → Tryd.pinned.checked.prog.wantsStandIn t = false := by
  obtain rfl : f = 7 := Option.some.inj ((show Tryd.prog.funcNamed "computus/computuslaw09.PaschalMonths" = some 7 by kernel_rfl).symm.trans hf) |>.symm
  obtain rfl : fn = Tryd.f7 := (Option.some.inj (Tryd.func7.symm.trans hfn)).symm
  refine ⟨by kernel_rfl, fun j t ht => ?_⟩
  rw [Tryd.params7] at ht
  have hm : t ∈ [5, 3, 5] := by simpa using Array.mem_of_getElem? ht
  have hall : ([5, 3, 5].all fun u => !Tryd.prog.wantsStandIn u) = true := by kernel_rfl
  exact (show Tryd.prog.wantsStandIn t = false by simpa using List.all_eq_true.1 hall t hm)
theorem PaschalMonths_proved : Rows.PaschalMonthsCardSaid :=
  Claim7.holds_tied_plain_at .later [] _ _ _ _ PaschalMonths_said (fun _ h => by cases h) (by kernel_rfl) (fun _ h => by cases h) paschalMonths_row_tie rfl ⟨rfl, rfl⟩ (mainIs_of io_list (by kernel_rfl)) rfl PaschalMonths_plain (by kernel_rfl)
#print axioms PaschalMonths_proved
end Go.Proofs.YtliomdnglhjfaaaDoor

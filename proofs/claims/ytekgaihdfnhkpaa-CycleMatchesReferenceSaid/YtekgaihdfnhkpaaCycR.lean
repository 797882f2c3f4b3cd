/- Contracts: the reference of layer 14. -/
import Derived.Test.YtekgaihdfnhkpaaCyc5
set_option linter.unusedSimpArgs false
set_option linter.unusedVariables false
set_option linter.unusedSectionVars false
namespace Go.Proofs.Ytekgaihdfnhkpaa
open Go.ChangeShapes Go.WideShapes Go.ChangeAt Go.RowKit
set_option maxHeartbeats 1000000
set_option maxRecDepth 20000

theorem rFails_any (c f l : Int) (w : World) (bf : -9223372036854775808 ≤ f ∧ f ≤ 9223372036854775807) (bl : -9223372036854775808 ≤ l ∧ l ≤ 9223372036854775807) :
    Calls Try.prog 16 #[.int .i64 c, .int .i64 f, .int .i64 l] w fun e w' => e = .returned (.int .i64 (rgE c f l)) ∧ w = w' := by
  have hv : rgE c f l = if flE c f ≠ 0 then flE c f else if flE c l ≠ 0 then 1 else if l < f ∨ 9999 < l - f then 1 else 0 := rfl
  have K1 := Lib.hid (fun w => Fails_any c f w)
  have K2 := Lib.hid (fun w => Fails_any c l w)
  rcases fl_cases c f with ⟨h, e0⟩ | ⟨h, e0⟩ | ⟨h, e0⟩
  · rw [e0] at K1
    have x1 := fit_cal c f h
    rcases fl_cases c l with ⟨g, e1⟩ | ⟨g, e1⟩ | ⟨g, e1⟩
    · rw [e1] at K2
      have x2 := fit_cal c l g
      rw [if_neg (by omega), if_neg (by omega)] at hv
      clear e0 e1 h g
      by_cases o : l < f
      · rw [hv, if_pos (.inl o)]
        clear hv
        go_enter Try.func16, Try.ntmps16
        go_wp2_with fail
        (go_at_call 27; (with_reducible refine (K1.out _).mono ?_); rintro e w1 ⟨rfl, rfl⟩)
        go_wp2_with fail
        (go_at_call 27; (with_reducible refine (K2.out _).mono ?_); rintro e w1 ⟨rfl, rfl⟩)
        go_wp2
        go_ret
        exact ⟨rfl, rfl⟩
      · by_cases p : 9999 < l - f
        · rw [hv, if_pos (.inr p)]
          clear hv
          go_enter Try.func16, Try.ntmps16
          go_wp2_with fail
          (go_at_call 27; (with_reducible refine (K1.out _).mono ?_); rintro e w1 ⟨rfl, rfl⟩)
          go_wp2_with fail
          (go_at_call 27; (with_reducible refine (K2.out _).mono ?_); rintro e w1 ⟨rfl, rfl⟩)
          go_wp2
          go_ret
          exact ⟨rfl, rfl⟩
        · rw [hv, if_neg (by omega)]
          clear hv
          go_enter Try.func16, Try.ntmps16
          go_wp2_with fail
          (go_at_call 27; (with_reducible refine (K1.out _).mono ?_); rintro e w1 ⟨rfl, rfl⟩)
          go_wp2_with fail
          (go_at_call 27; (with_reducible refine (K2.out _).mono ?_); rintro e w1 ⟨rfl, rfl⟩)
          go_wp2
          go_ret
          exact ⟨rfl, rfl⟩
    · rw [e1] at K2
      rw [hv, if_neg (by omega), if_pos (by omega)]
      clear hv e0 e1 h g
      go_enter Try.func16, Try.ntmps16
      go_wp2_with fail
      (go_at_call 27; (with_reducible refine (K1.out _).mono ?_); rintro e w1 ⟨rfl, rfl⟩)
      go_wp2_with fail
      (go_at_call 27; (with_reducible refine (K2.out _).mono ?_); rintro e w1 ⟨rfl, rfl⟩)
      go_wp2
      go_ret
      exact ⟨rfl, rfl⟩
    · unfold Fit at h; omega
  all_goals
    rw [e0] at K1
    rw [hv, if_pos (by omega), e0]
    clear hv e0 h
    go_enter Try.func16, Try.ntmps16
    go_wp2_with fail
    (go_at_call 27; (with_reducible refine (K1.out _).mono ?_); rintro e w1 ⟨rfl, rfl⟩)
    go_wp2_with fail
    (go_at_call 27; (with_reducible refine (K1.out _).mono ?_); rintro e w1 ⟨rfl, rfl⟩)
    go_wp2
    go_ret
    exact ⟨rfl, rfl⟩
theorem rDate11 (k y : Int) (w : World) (h : Fit k y) :
    Calls Try.prog 33 #[.int .i64 k, .int .i64 y] w fun e w' => e = .returned (.agg #[.int .i64 y, .int .i64 (dmo (easI k y)), .int .i64 (dda (easI k y))]) ∧ Kept w w' := by
  have := rGau_ok k y w h
  obtain ⟨a, b⟩ := g_date k y h
  rwa [a, b] at this
theorem rIndex_ok (k y : Int) (w : World) (h : Fit k y) :
    Calls Try.prog 18 #[.int .i64 k, .int .i64 y] w fun e w' => e = .returned (.int .i64 (easI k y - 1)) ∧ Kept w w' := by
  have KD := Lib.hid (fun w => rDate11 k y w h)
  have hb := easI_bounds k y
  generalize easI k y = i at *
  have hm : dmo i = if i ≤ 10 then 3 else 4 := rfl
  have hd : dda i = if i ≤ 10 then 21 + i else i - 10 := rfl
  by_cases g : i ≤ 10
  · rw [if_pos g] at hm hd
    rw [hm, hd] at KD
    clear hm hd h
    have e : i - 1 = 21 + i - 22 := by omega
    rw [e]
    clear e
    go_enter Try.func18, Try.ntmps18
    go_wp2_with fail
    (go_at_call 33; refine (KD.out _).mono ?_; rintro e w1 ⟨rfl, hk1⟩)
    go_wp2
    go_ret
    exact ⟨rfl, (by repeat (first | with_reducible exact Kept.refl _ | with_reducible assumption | with_reducible refine Kept.drew ?_ | with_reducible refine Kept.drewN ?_ _ | with_reducible refine Kept.alloc ?_ _ | (with_reducible refine Kept.setCell ?_ (by first | exact Nat.le_refl _ | omega | (simp; done) | (simp; omega)) _) | (with_reducible refine Kept.trans ?_ (by with_reducible assumption))))⟩
  · rw [if_neg g] at hm hd
    rw [hm, hd] at KD
    clear hm hd h
    have e : i - 1 = i - 10 + 9 := by omega
    rw [e]
    clear e
    go_enter Try.func18, Try.ntmps18
    go_wp2_with fail
    (go_at_call 33; refine (KD.out _).mono ?_; rintro e w1 ⟨rfl, hk1⟩)
    go_wp2
    go_ret
    exact ⟨rfl, (by repeat (first | with_reducible exact Kept.refl _ | with_reducible assumption | with_reducible refine Kept.drew ?_ | with_reducible refine Kept.drewN ?_ _ | with_reducible refine Kept.alloc ?_ _ | (with_reducible refine Kept.setCell ?_ (by first | exact Nat.le_refl _ | omega | (simp; done) | (simp; omega)) _) | (with_reducible refine Kept.trans ?_ (by with_reducible assumption))))⟩
theorem rOn_ok (k y m d : Int) (w : World) (h : Fit k y) :
    Calls Try.prog 28 #[.int .i64 k, .int .i64 y, .int .i64 m, .int .i64 d] w fun e w' => e = .returned (.bool (onB k m d y)) ∧ Kept w w' := by
  have KD := Lib.hid (fun w => rDate11 k y w h)
  have hv : onB k m d y = decide (dmo (easI k y) = m ∧ dda (easI k y) = d) := rfl
  generalize dmo (easI k y) = x at *
  generalize dda (easI k y) = z at *
  by_cases a : x = m
  · subst a
    by_cases b : z = d
    · subst b
      have e : onB k x z y = true := by rw [hv]; simp
      rw [e]
      clear hv h e
      go_enter Try.func28, Try.ntmps28
      go_wp2_with fail
      (go_at_call 33; refine (KD.out _).mono ?_; rintro e w1 ⟨rfl, hk1⟩)
      go_wp2
      go_ret
      exact ⟨rfl, (by repeat (first | with_reducible exact Kept.refl _ | with_reducible assumption | with_reducible refine Kept.drew ?_ | with_reducible refine Kept.drewN ?_ _ | with_reducible refine Kept.alloc ?_ _ | (with_reducible refine Kept.setCell ?_ (by first | exact Nat.le_refl _ | omega | (simp; done) | (simp; omega)) _) | (with_reducible refine Kept.trans ?_ (by with_reducible assumption))))⟩
    · have e : onB k x d y = false := by rw [hv]; simp [b]
      rw [e]
      have hb : (z == d) = false := beq_false_of_ne b
      clear hv h e
      go_enter Try.func28, Try.ntmps28
      go_wp2_with fail
      (go_at_call 33; refine (KD.out _).mono ?_; rintro e w1 ⟨rfl, hk1⟩)
      go_wp2
      go_ret
      exact ⟨rfl, (by repeat (first | with_reducible exact Kept.refl _ | with_reducible assumption | with_reducible refine Kept.drew ?_ | with_reducible refine Kept.drewN ?_ _ | with_reducible refine Kept.alloc ?_ _ | (with_reducible refine Kept.setCell ?_ (by first | exact Nat.le_refl _ | omega | (simp; done) | (simp; omega)) _) | (with_reducible refine Kept.trans ?_ (by with_reducible assumption))))⟩
  · have e : onB k m d y = false := by rw [hv]; simp [a]
    rw [e]
    clear hv h e
    go_enter Try.func28, Try.ntmps28
    go_wp2_with fail
    (go_at_call 33; refine (KD.out _).mono ?_; rintro e w1 ⟨rfl, hk1⟩)
    go_wp2
    go_ret
    exact ⟨rfl, (by repeat (first | with_reducible exact Kept.refl _ | with_reducible assumption | with_reducible refine Kept.drew ?_ | with_reducible refine Kept.drewN ?_ _ | with_reducible refine Kept.alloc ?_ _ | (with_reducible refine Kept.setCell ?_ (by first | exact Nat.le_refl _ | omega | (simp; done) | (simp; omega)) _) | (with_reducible refine Kept.trans ?_ (by with_reducible assumption))))⟩
theorem rYears_ok (c f l m d : Int) (w : World) (h : rgE c f l = 0) :
    Calls Try.prog 21 #[.int .i64 c, .int .i64 f, .int .i64 l, .int .i64 m, .int .i64 d] w fun e w' => ∃ o q, e = .returned (.slice o (yrs c f m d ((l - f).toNat + 1)).length q) ∧ IsInts w' o (yrs c f m d ((l - f).toNat + 1)) ∧ Kept w w' := by
  obtain ⟨hf, hl, hfl, hd⟩ := rg_zero c f l h
  have hb1 : 1 ≤ f ∧ f ≤ 1000000000 := (fit_cal c f hf).2
  have hb2 : 1 ≤ l ∧ l ≤ 1000000000 := (fit_cal c l hl).2
  generalize hn : (l - f).toNat + 1 = n at *
  have hl2 : l = f + n - 1 := by omega
  have hfk : ∀ k : Nat, k < n → Fit c (f + k) := by
    intro k hk
    unfold Fit at *
    omega
  have KO := Lib.hid (fun (k : Nat) w (hk : k < n) => rOn_ok c (f + k) m d w (hfk k hk))
  obtain ⟨i0, hi, hz0, hz1, hz2⟩ := info_parts info_int
  subst hl2
  have HY := Lib.hid (fun (k : Nat) => (show yrs c f m d (k + 1) = if onB c m d (f + k) then yrs c f m d k ++ [f + k] else yrs c f m d k from rfl))
  have HL := Lib.hid (fun k => yrs_len c f m d k)
  clear hn hfk hf hl h hd hfl
  go_enter Try.func21, Try.ntmps21
  go_wp2_with fail
  go_loopw [11, 12] (fun v i wr => ∃ k : Nat, k ≤ n ∧ i = .int .i64 (f + k) ∧ wr.ownsRow w.heap.size 3 1 v (yrs c f m d k).length ((yrs c f m d k).map (Value.int .i64)) ∧ Kept w wr) (fun _ i _ => (f + n - intOf i).toNat)
  case atStart => exact ⟨0, by omega, by go_num, World.ownsRow_nil _ _ _ _, (by repeat (first | with_reducible exact Kept.refl _ | with_reducible assumption | with_reducible refine Kept.drew ?_ | with_reducible refine Kept.drewN ?_ _ | with_reducible refine Kept.alloc ?_ _ | (with_reducible refine Kept.setCell ?_ (by first | exact Nat.le_refl _ | omega | (simp; done) | (simp; omega)) _) | (with_reducible refine Kept.trans ?_ (by with_reducible assumption))))⟩
  case round =>
    obtain ⟨k, hk, rfl, hown, hkw⟩ := hrel
    have hsz := hkw.size
    by_cases hlt : k < n
    · have hlt2 : f + (k : Int) ≤ f + n - 1 := by omega
      have hY := HY.out k
      have hLk := HL.out k
      go_wp2_with fail
      go_at_call 28
      (with_reducible refine (KO.out k _ hlt).mono ?_)
      rintro e w2 ⟨rfl, hk2⟩
      have hkw2 := hkw.trans hk2
      have hown2 := owns_kept hown hk2
      have hsz2 := hkw2.size
      clear hown hkw
      generalize onB c m d (f + k) = b at *
      cases b with
      | true =>
        rw [if_pos rfl] at hY
        have Hown := Lib.hid hown2
        have hown3 := hown2.alloc (.cells #[.int .i64 (f + k)] 3)
        have HYk := Lib.hid hY
        clear hY hown2
        go_wp2_with (at_builtin; refine wpList_append_own _ rfl _ _ 31 rfl w.heap.size 3 i0 (.int .i64 0) 1 8 Try.underlying31 hi hz0 hz1 hz2 rfl (by decide) _ _ _ rfl hown3 ⟨w2.heap.size, 0, none⟩ 1 1 [.int .i64 (f + k)] rfl rfl ?c1 ?c2 ?c3 ?c4 ?c5 ?_)
        case c1 => exact cell_one_new w2 (.int .i64 (f + k)) 3
        case c2 => simp [Value.oneCell']
        case c3 => unfold maxLen; omega
        case c4 => omega
        case c5 => simp; omega
        intro v' w3 hown1 hgrow _
        have hk3 : Kept w w3 := Below.grown (hkw2.alloc (.cells #[.int .i64 (f + k)] 3)) hgrow (by simp; omega) (fun q hq => by have := (Hown.out.lt q hq).1; omega)
        clear hgrow hown3 hkw2
        go_wp2
        go_roundw
        case rel => exact ⟨k + 1, by omega, by go_num, by rw [HYk.out]; simpa using hown1, hk3⟩
        case measure => simp [intOf]; omega
      | false =>
        rw [if_neg (by decide)] at hY
        have HYk := Lib.hid hY
        clear hY
        go_wp2
        go_roundw
        case rel => exact ⟨k + 1, by omega, by go_num, by rw [HYk.out]; exact hown2, hkw2⟩
        case measure => simp [intOf]; omega
    · obtain rfl : k = n := by omega
      go_wp2
      go_ret
      obtain ⟨o, q, rfl, hI⟩ := ints_of_owns hown
      exact ⟨o, q, rfl, hI, hkw⟩
theorem nxt_off (k f m d : Int) (n : Nat) (h : m < 3 ∨ 4 < m ∨ d < 1 ∨ 31 < d) : nxt k f m d n = 0 := by
  induction n with
  | zero => rfl
  | succ n ih =>
    have e : nxt k f m d (n + 1) = if nxt k f m d n = 0 then (if onB k m d (f + n) then f + n else 0) else nxt k f m d n := rfl
    have hb := easI_bounds k (f + n)
    have o : onB k m d (f + n) = false := by
      unfold onB dmo dda
      rw [decide_eq_false_iff_not]
      by_cases g : easI k (f + n) ≤ 10
      · rw [if_pos g, if_pos g]; omega
      · rw [if_neg g, if_neg g]; omega
    rw [e, if_pos ih, o]
    rfl
theorem rNext_no (c y m d : Int) (w : World) (h : flE c y ≠ 0) :
    Calls Try.prog 10 #[.int .i64 c, .int .i64 y, .int .i64 m, .int .i64 d] w fun e w' => e = .returned (.tuple #[.int .i64 0, .int .i64 (flE c y)]) ∧ Kept w w' := by
  have KF := Lib.hid (fun w => Fails_any c y w)
  generalize flE c y = x at *
  go_enter Try.func10, Try.ntmps10
  go_wp2_with fail
  (go_at_call 27; (with_reducible refine (KF.out _).mono ?_); rintro e w1 ⟨rfl, rfl⟩)
  go_wp2
  go_ret2
  exact ⟨rfl, (by repeat (first | with_reducible exact Kept.refl _ | with_reducible assumption | with_reducible refine Kept.drew ?_ | with_reducible refine Kept.drewN ?_ _ | with_reducible refine Kept.alloc ?_ _ | (with_reducible refine Kept.setCell ?_ (by first | exact Nat.le_refl _ | omega | (simp; done) | (simp; omega)) _) | (with_reducible refine Kept.trans ?_ (by with_reducible assumption))))⟩
theorem rNext_ok (c y m d : Int) (w : World) (hf : Fit c y) :
    Calls Try.prog 10 #[.int .i64 c, .int .i64 y, .int .i64 m, .int .i64 d] w fun e w' => e = .returned (.tuple #[.int .i64 (nxt c y m d (nyr y)), .int .i64 (nxE (nxt c y m d (nyr y)))]) ∧ Kept w w' := by
  have hy := (fit_cal c y hf).2
  have e0 : flE c y = 0 := by
    rcases fl_cases c y with ⟨g, e⟩ | ⟨g, e⟩ | ⟨g, e⟩
    · exact e
    · unfold Off at g; unfold Fit at hf; omega
    · unfold Fit at hf; omega
  have KF := Lib.hid (fun w => Fails_any c y w)
  rw [e0] at KF
  have hn1 : (nyr y : Int) ≤ 10000 := by unfold nyr; omega
  have hn2 : y + (nyr y : Int) ≤ 1000000001 := by unfold nyr; omega
  have hn3 : 10000 ≤ (nyr y : Int) ∨ 1000000001 ≤ y + (nyr y : Int) := by unfold nyr; omega
  by_cases ho : m < 3 ∨ 4 < m ∨ d < 1 ∨ 31 < d
  · rw [nxt_off c y m d _ ho, nxE_0]
    clear hn1 hn2 hn3 e0 hf
    by_cases h1 : m < 3
    · go_enter Try.func10, Try.ntmps10
      go_wp2_with fail
      (go_at_call 27; (with_reducible refine (KF.out _).mono ?_); rintro e w1 ⟨rfl, rfl⟩)
      go_wp2
      go_ret2
      exact ⟨rfl, (by repeat (first | with_reducible exact Kept.refl _ | with_reducible assumption | with_reducible refine Kept.drew ?_ | with_reducible refine Kept.drewN ?_ _ | with_reducible refine Kept.alloc ?_ _ | (with_reducible refine Kept.setCell ?_ (by first | exact Nat.le_refl _ | omega | (simp; done) | (simp; omega)) _) | (with_reducible refine Kept.trans ?_ (by with_reducible assumption))))⟩
    · by_cases h2 : 4 < m
      · go_enter Try.func10, Try.ntmps10
        go_wp2_with fail
        (go_at_call 27; (with_reducible refine (KF.out _).mono ?_); rintro e w1 ⟨rfl, rfl⟩)
        go_wp2
        go_ret2
        exact ⟨rfl, (by repeat (first | with_reducible exact Kept.refl _ | with_reducible assumption | with_reducible refine Kept.drew ?_ | with_reducible refine Kept.drewN ?_ _ | with_reducible refine Kept.alloc ?_ _ | (with_reducible refine Kept.setCell ?_ (by first | exact Nat.le_refl _ | omega | (simp; done) | (simp; omega)) _) | (with_reducible refine Kept.trans ?_ (by with_reducible assumption))))⟩
      · by_cases h3 : d < 1
        · go_enter Try.func10, Try.ntmps10
          go_wp2_with fail
          (go_at_call 27; (with_reducible refine (KF.out _).mono ?_); rintro e w1 ⟨rfl, rfl⟩)
          go_wp2
          go_ret2
          exact ⟨rfl, (by repeat (first | with_reducible exact Kept.refl _ | with_reducible assumption | with_reducible refine Kept.drew ?_ | with_reducible refine Kept.drewN ?_ _ | with_reducible refine Kept.alloc ?_ _ | (with_reducible refine Kept.setCell ?_ (by first | exact Nat.le_refl _ | omega | (simp; done) | (simp; omega)) _) | (with_reducible refine Kept.trans ?_ (by with_reducible assumption))))⟩
        · have h4 : 31 < d := by omega
          go_enter Try.func10, Try.ntmps10
          go_wp2_with fail
          (go_at_call 27; (with_reducible refine (KF.out _).mono ?_); rintro e w1 ⟨rfl, rfl⟩)
          go_wp2
          go_ret2
          exact ⟨rfl, (by repeat (first | with_reducible exact Kept.refl _ | with_reducible assumption | with_reducible refine Kept.drew ?_ | with_reducible refine Kept.drewN ?_ _ | with_reducible refine Kept.alloc ?_ _ | (with_reducible refine Kept.setCell ?_ (by first | exact Nat.le_refl _ | omega | (simp; done) | (simp; omega)) _) | (with_reducible refine Kept.trans ?_ (by with_reducible assumption))))⟩
  · generalize nyr y = n at *
    have hfk : ∀ k : Nat, k < n → Fit c (y + k) := by
      intro k hk
      unfold Fit at *
      omega
    have KO := Lib.hid (fun (k : Nat) w (hk : k < n) => rOn_ok c (y + k) m d w (hfk k hk))
    have HX := Lib.hid (fun (k : Nat) => (show nxt c y m d (k + 1) = if nxt c y m d k = 0 then (if onB c m d (y + k) then y + k else 0) else nxt c y m d k from rfl))
    have HS := Lib.hid (fun (k : Nat) (hk : k ≤ n) (h : nxt c y m d k ≠ 0) => (show nxt c y m d n = nxt c y m d k from by rw [← nxt_stop c y m d k (n - k) h, show k + (n - k) = n from by omega]))
    have HB := Lib.hid (fun k => nxt_bounds c y m d k hy.1)
    have o1 : 3 ≤ m := by omega
    have o2 : m ≤ 4 := by omega
    have o3 : 1 ≤ d := by omega
    have o4 : d ≤ 31 := by omega
    clear hfk hf e0 ho
    go_enter Try.func10, Try.ntmps10
    go_wp2_with fail
    (go_at_call 27; (with_reducible refine (KF.out _).mono ?_); rintro e w1 ⟨rfl, rfl⟩)
    go_wp2_with fail
    go_loopw [11] (fun i wr => ∃ k : Nat, k ≤ n ∧ i = .int .i64 (y + k) ∧ Hid (nxt c y m d k = 0) ∧ Kept w wr) (fun i _ => (y + n - intOf i).toNat)
    case atStart => exact ⟨0, by omega, by go_num, (show nxt c y m d 0 = 0 from rfl), (by repeat (first | with_reducible exact Kept.refl _ | with_reducible assumption | with_reducible refine Kept.drew ?_ | with_reducible refine Kept.drewN ?_ _ | with_reducible refine Kept.alloc ?_ _ | (with_reducible refine Kept.setCell ?_ (by first | exact Nat.le_refl _ | omega | (simp; done) | (simp; omega)) _) | (with_reducible refine Kept.trans ?_ (by with_reducible assumption))))⟩
    case round =>
      obtain ⟨k, hk, rfl, HZ, hkw⟩ := hrel
      by_cases hlt : k < n
      · have g1 : y + (k : Int) ≤ y + 9999 := by omega
        have g2 : y + (k : Int) ≤ 1000000000 := by omega
        have hX := HX.out k
        rw [if_pos HZ.out] at hX
        go_wp2_with fail
        go_at_call 28
        (with_reducible refine (KO.out k _ hlt).mono ?_)
        rintro e w2 ⟨rfl, hk2⟩
        generalize onB c m d (y + k) = b at *
        cases b with
        | true =>
          rw [if_pos rfl] at hX
          have hS := HS.out (k + 1) (by omega) (by omega)
          rw [hX] at hS
          have HR := Lib.hid hS
          clear hS hX
          go_wp2
          go_ret2
          exact ⟨by rw [HR.out, nxE_1 _ (by omega)]; rfl, (by repeat (first | with_reducible exact Kept.refl _ | with_reducible assumption | with_reducible refine Kept.drew ?_ | with_reducible refine Kept.drewN ?_ _ | with_reducible refine Kept.alloc ?_ _ | (with_reducible refine Kept.setCell ?_ (by first | exact Nat.le_refl _ | omega | (simp; done) | (simp; omega)) _) | (with_reducible refine Kept.trans ?_ (by with_reducible assumption))))⟩
        | false =>
          rw [if_neg (by decide)] at hX
          have HR := Lib.hid hX
          clear hX
          go_wp2
          go_roundw
          case rel => exact ⟨k + 1, by omega, by go_num, HR, (by repeat (first | with_reducible exact Kept.refl _ | with_reducible assumption | with_reducible refine Kept.drew ?_ | with_reducible refine Kept.drewN ?_ _ | with_reducible refine Kept.alloc ?_ _ | (with_reducible refine Kept.setCell ?_ (by first | exact Nat.le_refl _ | omega | (simp; done) | (simp; omega)) _) | (with_reducible refine Kept.trans ?_ (by with_reducible assumption))))⟩
          case measure => simp [intOf]; omega
      · obtain rfl : k = n := by omega
        by_cases g1 : y + (k : Int) ≤ y + 9999
        · have g2 : 1000000000 < y + (k : Int) := by omega
          go_wp2
          go_ret2
          exact ⟨by rw [HZ.out, nxE_0]; rfl, (by repeat (first | with_reducible exact Kept.refl _ | with_reducible assumption | with_reducible refine Kept.drew ?_ | with_reducible refine Kept.drewN ?_ _ | with_reducible refine Kept.alloc ?_ _ | (with_reducible refine Kept.setCell ?_ (by first | exact Nat.le_refl _ | omega | (simp; done) | (simp; omega)) _) | (with_reducible refine Kept.trans ?_ (by with_reducible assumption))))⟩
        · go_wp2
          go_ret2
          exact ⟨by rw [HZ.out, nxE_0]; rfl, (by repeat (first | with_reducible exact Kept.refl _ | with_reducible assumption | with_reducible refine Kept.drew ?_ | with_reducible refine Kept.drewN ?_ _ | with_reducible refine Kept.alloc ?_ _ | (with_reducible refine Kept.setCell ?_ (by first | exact Nat.le_refl _ | omega | (simp; done) | (simp; omega)) _) | (with_reducible refine Kept.trans ?_ (by with_reducible assumption))))⟩
end Go.Proofs.Ytekgaihdfnhkpaa

/- Contract: package cycle: each. -/
import Derived.Test.YtekgaihdfnhkpaaCyc1
set_option linter.unusedSimpArgs false
set_option linter.unusedVariables false
set_option linter.unusedSectionVars false
namespace Go.Proofs.Ytekgaihdfnhkpaa
open Go.ChangeShapes Go.WideShapes Go.ChangeAt Go.RowKit
set_option maxHeartbeats 1000000
set_option maxRecDepth 20000

theorem But_at (k y : Int) (w : World) (h : Fit k y) :
    Calls Try.prog 37 #[.int .i64 k, .int .i64 y] w fun e w' => e = .returned (.tuple #[.agg #[.int .i64 y, .int .i64 (dmo (easI k y)), .int .i64 (dda (easI k y))], .int .i64 0]) ∧ Kept w w' := by
  have := But_ok k y w h
  obtain ⟨a, b⟩ := b_date k y h
  rwa [a, b] at this
theorem index_at (i : Int) (w : World) (h : 1 ≤ i) (h' : i ≤ 35) :
    Calls Try.prog 26 #[.int .i64 (dmo i), .int .i64 (dda i)] w fun e w' => e = .returned (.int .i64 (i - 1)) ∧ w = w' := by
  have := index_any (dmo i) (dda i) w (by unfold dmo; split <;> omega) (by unfold dda; split <;> omega)
  rwa [idx_of i h h'] at this
theorem each_ok (N : Nat) (cap : Array Value) (c f l : Int) (w : World) (J : Nat → World → Prop) (cont : Nat → Bool) (hf : Fit c f) (hl : Fit c l) (hfl : f ≤ l) (hd : l - f ≤ 9999)
    (hN : Hid (∀ args w, (callFunc N args).run Try.prog w = .ok (.enter N args) w))
    (hK : Hid (∀ k w w', J k w → Kept w w' → J k w')) (h0 : Hid (J 0 w))
    (hv : Hid (∀ k w, k < (l - f).toNat + 1 → (∀ j, j < k → cont j = true) → J k w → Calls Try.prog N (#[.int .i64 (f + k), .int .i64 (easI c (f + k) - 1)] ++ cap) w fun e w' => e = .returned (.bool (cont k)) ∧ J (k + 1) w')) :
    Calls Try.prog 23 #[.int .i64 c, .int .i64 f, .int .i64 l, .func (.func N) #[] cap] w fun e w' => e = .returned (.int .i64 0) ∧ ∃ k, k ≤ (l - f).toNat + 1 ∧ J k w' ∧ (k = (l - f).toNat + 1 ∨ 0 < k ∧ cont (k - 1) = false) := by
  have KC := Lib.hid (fun w => check_any c f l w (by unfold Fit at hf; omega) (by unfold Fit at hl; omega))
  have e0 : rgE c f l = 0 := by
    unfold rgE
    rcases fl_cases c f with ⟨h, e0⟩ | ⟨h, e0⟩ | ⟨h, e0⟩
    · rcases fl_cases c l with ⟨h, e1⟩ | ⟨h, e1⟩ | ⟨h, e1⟩
      · rw [if_neg (by omega), if_neg (by omega), if_neg (by omega)]
      · unfold Off at h; unfold Fit at hl; omega
      · unfold Fit at hl; omega
    · unfold Off at h; unfold Fit at hf; omega
    · unfold Fit at hf; omega
  rw [e0] at KC
  have hfk : ∀ k : Nat, k < (l - f).toNat + 1 → Fit c (f + k) := by
    intro k hk
    unfold Fit at *
    omega
  have KB := Lib.hid (fun (k : Nat) w (hk : k < (l - f).toNat + 1) => But_at c (f + k) w (hfk k hk))
  have KI := Lib.hid (fun (k : Nat) w => index_at (easI c (f + k)) w (easI_bounds c (f + k)).1 (easI_bounds c (f + k)).2.1)
  have hb1 : 1 ≤ f ∧ f ≤ 1000000000 := (fit_cal c f hf).2
  have hb2 : 1 ≤ l ∧ l ≤ 1000000000 := (fit_cal c l hl).2
  clear hfk e0 hf hl
  generalize hn : (l - f).toNat + 1 = n at *
  have hl2 : l = f + n - 1 := by omega
  subst hl2
  clear hn
  go_enter Try.func23, Try.ntmps23
  go_wp2_with fail
  (go_at_call 36; refine (KC.out _).mono ?_; rintro e w1 ⟨rfl, hk1⟩)
  go_wp2_with fail
  go_loopw [24] (fun i wr => ∃ k : Nat, k ≤ n ∧ i = .int .i64 k ∧ J k wr ∧ Hid (∀ j, j < k → cont j = true)) (fun i _ => (n - intOf i).toNat)
  case atStart => exact ⟨0, by omega, rfl, hK.out _ _ _ h0.out hk1, fun j hj => absurd hj (Nat.not_lt_zero _)⟩
  case round =>
    obtain ⟨k, hk, rfl, hJ, HP⟩ := hrel
    by_cases hlt : k < n
    · have hJ' := Lib.hid hJ
      clear hJ
      go_wp2_with fail
      go_at_call 37
      refine (KB.out k _ hlt).mono ?_
      rintro e w2 ⟨rfl, hk2⟩
      go_wp2_with fail
      go_at_call 26
      refine (KI.out k _).mono ?_
      rintro e w3 ⟨rfl, rfl⟩
      go_wp2_with fail
      rw [hN.out, Oper.upon_enter]
      refine (hv.out k _ hlt HP.out (hK.out _ _ _ hJ'.out ((Kept.trans hk2 ((Kept.refl _).alloc _))))).mono ?_
      rintro e w4 ⟨rfl, hj4⟩
      have HC : Hid (cont k = false → 0 < k + 1 ∧ cont (k + 1 - 1) = false) := (show _ → _ from fun h => ⟨by omega, by rw [Nat.add_sub_cancel]; exact h⟩)
      have HP1 : Hid (cont k = true → ∀ j, j < k + 1 → cont j = true) := (show _ → _ from fun h j hj => by
        by_cases e : j = k
        · subst e; exact h
        · exact HP.out j (by omega))
      clear hJ' HP
      generalize cont k = b at *
      cases b with
      | true =>
        have hj := Lib.hid hj4
        have hp := Lib.hid (HP1.out rfl)
        clear hj4 HP1
        go_wp2
        go_roundw
        case rel => exact ⟨k + 1, by omega, by go_num, hj.out, hp⟩
        case measure => simp [intOf]; omega
      | false =>
        have hc := Lib.hid (HC.out rfl)
        have hj := Lib.hid hj4
        clear hj4 HC HP1
        go_wp2
        go_ret
        exact ⟨rfl, k + 1, by omega, hj.out, .inr hc.out⟩
    · obtain rfl : k = n := by omega
      go_wp2
      go_ret
      exact ⟨rfl, k, Nat.le_refl _, hJ, .inl rfl⟩
end Go.Proofs.Ytekgaihdfnhkpaa

/- The fixed examples of the laws of layer 14. -/
import Derived.Test.YtekgaihdfnhkpaaCycR
set_option linter.unusedSimpArgs false
set_option linter.unusedVariables false
set_option linter.unusedSectionVars false
namespace Go.Proofs.Ytekgaihdfnhkpaa
open Go.ChangeShapes Go.WideShapes Go.ChangeAt Go.RowKit
set_option maxHeartbeats 1000000
set_option maxRecDepth 20000

theorem aw_rg : rgE 2 1583 2200 = 0 ∧ rgE 2 1582 2200 = 1 := by decide +kernel
theorem aw_yrs : yrs 2 1583 3 22 ((2200 - 1583 : Int).toNat + 1) = [1598, 1693, 1761, 1818] := by decide +kernel
theorem aw_bst : (bst 2 1583 ((2200 - 1583 : Int).toNat + 1)).1 = 1598 := by decide +kernel
theorem aw_nx : nxt 2 2000 3 22 286 = 2285 := by decide +kernel
theorem aw_nxt : nxt 2 2000 3 22 (nyr 2000) = 2285 := by
  have h := nxt_stop 2 2000 3 22 286 9714 (by rw [aw_nx]; decide)
  rw [aw_nx] at h
  rw [show nyr 2000 = 286 + 9714 from by decide]
  exact h
theorem nxt_never (k f m d : Int) (n : Nat) (h : exB m d = false) : nxt k f m d n = 0 := by
  induction n with
  | zero => rfl
  | succ n ih =>
    have e : nxt k f m d (n + 1) = if nxt k f m d n = 0 then (if onB k m d (f + n) then f + n else 0) else nxt k f m d n := rfl
    have hb := easI_bounds k (f + n)
    have o : onB k m d (f + n) = false := by
      have := on_iff (easI k (f + n)) m d hb.1 hb.2.1
      rw [h] at this
      exact this.symm
    rw [e, if_pos ih, o]
    rfl
theorem ints_new (w : World) (L : List Int) (T : TypeId) : IsInts (w.alloc (.cells (L.map (Value.int .i64)).toArray T)) (some ⟨w.heap.size, 0, none⟩) L := isInts_lies (lies_new w L T)
theorem aw_num (L : List Int) (n : Nat) (hn : L.length = n) (hs : L.length ≤ 1000) (o o' : Option Addr) (c c' : Nat) (w : World) (hA : IsInts w o L) (hB : IsInts w o' L) :
    Calls Try.prog 20 #[.slice o n c, .slice o' n c'] w fun e w' => e = .returned (.bool true) ∧ Kept w w' := by
  subst hn
  have h := Numbers_of o o' c c' L L w hA hB hs hs
  rwa [decide_eq_true rfl] at h
theorem aw_Y (w : World) : Calls Try.prog 14 #[.int .i64 2, .int .i64 1583, .int .i64 2200, .int .i64 3, .int .i64 22] w fun e w' => ∃ o q, e = .returned (.tuple #[.slice o 4 q, .int .i64 0]) ∧ IsInts w' o [1598, 1693, 1761, 1818] ∧ Kept w w' := by
  have h := Years_ok 2 1583 2200 3 22 w aw_rg.1
  rw [aw_yrs] at h
  exact h
theorem aw_Y2 (w : World) : Calls Try.prog 14 #[.int .i64 2, .int .i64 1582, .int .i64 2200, .int .i64 3, .int .i64 22] w fun e w' => e = .returned (.tuple #[.slice none 0 0, .int .i64 1]) ∧ Kept w w' := by
  have h := Years_no 2 1582 2200 3 22 w (by decide) (by decide) (by rw [aw_rg.2]; decide)
  rw [aw_rg.2] at h
  exact h
theorem aw_N (w : World) : Calls Try.prog 9 #[.int .i64 2, .int .i64 2000, .int .i64 3, .int .i64 22] w fun e w' => e = .returned (.tuple #[.int .i64 2285, .int .i64 0]) ∧ Kept w w' := by
  have h := Next_ok 2 2000 3 22 w (by unfold Fit; omega)
  rw [aw_nxt] at h
  exact h
theorem aw_N2 (w : World) : Calls Try.prog 9 #[.int .i64 1, .int .i64 2000, .int .i64 3, .int .i64 21] w fun e w' => e = .returned (.tuple #[.int .i64 0, .int .i64 3]) ∧ Kept w w' := by
  have h := Next_ok 1 2000 3 21 w (by unfold Fit; omega)
  rw [nxt_never 1 2000 3 21 _ (by decide)] at h
  exact h
theorem aw_E (w : World) : Calls Try.prog 17 #[.int .i64 2, .int .i64 1583, .int .i64 2200] w fun e w' => e = .returned (.tuple #[.int .i64 1598, .int .i64 0]) ∧ Kept w w' := by
  have h := Earliest_ok 2 1583 2200 w aw_rg.1
  rw [aw_bst] at h
  exact h
theorem Cyc_awake (w : World) : Calls Try.prog 8 #[] w fun e w' => e = .returned (.bool true) ∧ Kept w w' := by
  go_enter Try.func8, Try.ntmps8
  go_wp2_with fail
  go_at_call 14
  refine (aw_Y _).mono ?_
  rintro e w1 ⟨o, q, rfl, hI, k1⟩
  have HI := Lib.hid hI
  clear hI
  go_wp2_with fail
  go_at_call 9
  refine (aw_N _).mono ?_
  rintro e w2 ⟨rfl, k2⟩
  go_wp2_with fail
  (go_at_call 11; (with_reducible refine (Period_1 _).mono ?_); rintro e w1 ⟨rfl, rfl⟩)
  go_wp2_with fail
  go_at_call 14
  refine (aw_Y2 _).mono ?_
  rintro e w3 ⟨rfl, k3⟩
  go_wp2_with fail
  go_at_call 9
  refine (aw_N2 _).mono ?_
  rintro e w4 ⟨rfl, k4⟩
  go_wp2_with fail
  go_at_call 17
  refine (aw_E _).mono ?_
  rintro e w5 ⟨rfl, k5⟩
  have K5 := (((k1.trans k2).trans k3).trans k4).trans k5
  have HI5 := HI.out.kept (((k2.trans k3).trans k4).trans k5)
  go_wp2_with fail
  go_at_call 20
  refine (aw_num [1598, 1693, 1761, 1818] 4 rfl (by decide) _ _ _ _ _ (HI5.kept ((Kept.refl _).alloc _)) (ints_new w5 [1598, 1693, 1761, 1818] _)).mono ?_
  rintro e w6 ⟨rfl, k6⟩
  have K6 := (K5.alloc _).trans k6
  go_wp2
  go_ret
  exact ⟨rfl, K6⟩
end Go.Proofs.Ytekgaihdfnhkpaa

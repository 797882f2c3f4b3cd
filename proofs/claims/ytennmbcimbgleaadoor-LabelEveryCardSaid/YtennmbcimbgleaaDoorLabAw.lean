/- The fixed examples of the laws of layer 8. -/
import Derived.Test.YtennmbcimbgleaaDoorRefLab4
import Derived.Test.YtennmbcimbgleaaDoorDays2
set_option linter.unusedSimpArgs false
set_option linter.unusedVariables false
set_option linter.unusedSectionVars false
namespace Go.Proofs.YtennmbcimbgleaaDoor
open Go.ChangeShapes Go.WideShapes Go.ChangeAt Go.RowKit
set_option maxHeartbeats 1000000

/-- What label.On returns, at every day. -/
def onA (m d : Int) : List Int := if Ex m d then onD m d else []
theorem onA_len (m d : Int) : (onA m d).length ≤ 1000 := by
  unfold onA
  split
  · have := onL_len (lun (dayN m d)) (psn (dayN m d))
    unfold onD
    omega
  · simp
theorem On_any (m d : Int) (w : World) (hT : LTab w) :
    Calls Tryd.prog 12 #[.int .i64 m, .int .i64 d] w fun e w' => ∃ o c, e = .returned (.slice o (onA m d).length c) ∧ IsInts w' o (onA m d) ∧ Kept w w' := by
  by_cases h : Ex m d
  · refine (On_ok m d w hT h).mono ?_
    rintro e w' ⟨rfl, rfl⟩
    have e1 : onA m d = onL (lun (dayN m d)) (psn (dayN m d)) := by unfold onA; rw [if_pos h]; rfl
    exact ⟨_, _, by rw [e1], by rw [e1]; exact isInts_lies (lies_new _ _ _), (Kept.refl _).alloc _⟩
  · refine (On_no m d w hT h).mono ?_
    rintro e w' ⟨rfl, rfl⟩
    have e1 : onA m d = [] := by unfold onA; rw [if_neg h]
    exact ⟨none, 0, by rw [e1]; rfl, by rw [e1]; exact isInts_nil _ _, Kept.refl _⟩
theorem rOn_any (m d : Int) (w : World) :
    Calls Tryd.prog 13 #[.int .i64 m, .int .i64 d] w fun e w' => ∃ o c, e = .returned (.slice o (onA m d).length c) ∧ IsInts w' o (onA m d) ∧ Kept w w' := by
  refine (rOn_of m d w).mono ?_
  rintro e w' ⟨v, rfl, ho, hk⟩
  have e1 : gat m d 31 = onA m d := by
    unfold onA
    split
    · rename_i h; exact gat_end m d h
    · rename_i h; exact gat_no m d h 31
  rw [e1] at ho
  obtain ⟨o, c, rfl, hi⟩ := ints_of_owns ho
  exact ⟨o, c, rfl, hi, hk⟩
theorem Days_len (l : Int) (w : World) (hT : LTab w) :
    Calls Tryd.prog 16 #[.int .i64 l] w fun e w' => ∃ o c, e = .returned (.slice o (bearsL l dayList).length c) ∧ Kept w w' := by
  refine (Days_of l w hT).mono ?_
  rintro e w' ⟨v, rfl, ho, hk⟩
  obtain ⟨h1, ⟨rfl, h3⟩ | ⟨g, cap, cur, rfl, _⟩⟩ := ho
  · exact ⟨none, 0, by rw [h3], hk⟩
  · exact ⟨_, _, rfl, hk⟩
theorem bears30 : (bearsL 30 dayList).length = 13 := by decide +kernel
theorem ints_new (w : World) (L : List Int) (T : TypeId) : IsInts (w.alloc (.cells (L.map (Value.int .i64)).toArray T)) (some ⟨w.heap.size, 0, none⟩) L := isInts_lies (lies_new w L T)
theorem aw_on (m d : Int) (L : List Int) (n : Nat) (h : onA m d = L) (hn : L.length = n) (w : World) (hT : LTab w) :
    Calls Tryd.prog 12 #[.int .i64 m, .int .i64 d] w fun e w' => ∃ o c, e = .returned (.slice o n c) ∧ IsInts w' o L ∧ Kept w w' := by
  subst h
  subst hn
  exact On_any m d w hT
theorem aw_num (L : List Int) (n : Nat) (hn : L.length = n) (hs : L.length ≤ 1000) (o o' : Option Addr) (c c' : Nat) (w : World) (hA : IsInts w o L) (hB : IsInts w o' L) :
    Calls Tryd.prog 11 #[.slice o n c, .slice o' n c'] w fun e w' => e = .returned (.bool true) ∧ Kept w w' := by
  subst hn
  have h := Numbers_of o o' c c' L L w hA hB hs hs
  rwa [decide_eq_true rfl] at h
theorem Lab_awake (w : World) (hT : LTab w) : Calls Tryd.prog 8 #[] w fun e w' => e = .returned (.bool true) ∧ Kept w w' := by
  have KT := Lib.hid hT
  have KP1 := Lib.hid (Position_ok 4 5 w hT (by unfold Ex; decide))
  rw [show lun (dayN 4 5) = 3 from by decide, show psn (dayN 4 5) = 5 from by decide] at KP1
  have KP2 := Lib.hid (Position_no 2 29 w hT (by unfold Ex; decide))
  clear hT
  go_enter Tryd.func8, Tryd.ntmps8
  go_wp2_with first | (go_at_call 9; (with_reducible refine (KP1.out).mono ?_); rintro e w1 ⟨rfl, rfl⟩) | (go_at_call 9; (with_reducible refine (KP2.out).mono ?_); rintro e w1 ⟨rfl, rfl⟩)
  go_at_call 12
  refine (aw_on 1 1 [30] 1 (by decide +kernel) rfl _ (KT.out.kept (Kept.refl w))).mono ?_
  rintro e u1 ⟨o1, c1, rfl, i1, k1⟩
  have K1 := (Kept.refl w).trans k1
  go_wp2_with fail
  go_at_call 11
  refine (aw_num [30] 1 rfl (by decide) _ _ _ _ _ (i1.kept ((Kept.refl _).alloc _)) (ints_new u1 [30] _)).mono ?_
  rintro e v1 ⟨rfl, q1⟩
  have L1 := (K1.alloc _).trans q1
  go_wp2_with fail
  go_at_call 12
  refine (aw_on 3 8 [23] 1 (by decide +kernel) rfl _ (KT.out.kept L1)).mono ?_
  rintro e u2 ⟨o2, c2, rfl, i2, k2⟩
  have K2 := (L1).trans k2
  go_wp2_with fail
  go_at_call 11
  refine (aw_num [23] 1 rfl (by decide) _ _ _ _ _ (i2.kept ((Kept.refl _).alloc _)) (ints_new u2 [23] _)).mono ?_
  rintro e v2 ⟨rfl, q2⟩
  have L2 := (K2.alloc _).trans q2
  go_wp2_with fail
  go_at_call 12
  refine (aw_on 4 4 [31, 26] 2 (by decide +kernel) rfl _ (KT.out.kept L2)).mono ?_
  rintro e u3 ⟨o3, c3, rfl, i3, k3⟩
  have K3 := (L2).trans k3
  go_wp2_with fail
  go_at_call 11
  refine (aw_num [31, 26] 2 rfl (by decide) _ _ _ _ _ (i3.kept ((Kept.refl _).alloc _)) (ints_new u3 [31, 26] _)).mono ?_
  rintro e v3 ⟨rfl, q3⟩
  have L3 := (K3.alloc _).trans q3
  go_wp2_with fail
  go_at_call 12
  refine (aw_on 4 5 [25, 24] 2 (by decide +kernel) rfl _ (KT.out.kept L3)).mono ?_
  rintro e u4 ⟨o4, c4, rfl, i4, k4⟩
  have K4 := (L3).trans k4
  go_wp2_with fail
  go_at_call 11
  refine (aw_num [25, 24] 2 rfl (by decide) _ _ _ _ _ (i4.kept ((Kept.refl _).alloc _)) (ints_new u4 [25, 24] _)).mono ?_
  rintro e v4 ⟨rfl, q4⟩
  have L4 := (K4.alloc _).trans q4
  go_wp2_with fail
  go_at_call 14
  refine (Bears_of 4 5 24 _ (KT.out.kept L4)).mono ?_
  rw [show bears 4 5 24 = true from by decide +kernel]
  rintro e v5 ⟨rfl, q5⟩
  have L5 := L4.trans q5
  go_wp2_with fail
  go_at_call 14
  refine (Bears_of 4 5 26 _ (KT.out.kept L5)).mono ?_
  rw [show bears 4 5 26 = false from by decide +kernel]
  rintro e v6 ⟨rfl, q6⟩
  have L6 := L5.trans q6
  go_wp2_with fail
  go_at_call 16
  refine (Days_len 30 _ (KT.out.kept L6)).mono ?_
  rw [bears30]
  rintro e v7 ⟨o7, c7, rfl, q7⟩
  have L7 := L6.trans q7
  go_wp2
  go_ret
  exact ⟨rfl, L7⟩
end Go.Proofs.YtennmbcimbgleaaDoor

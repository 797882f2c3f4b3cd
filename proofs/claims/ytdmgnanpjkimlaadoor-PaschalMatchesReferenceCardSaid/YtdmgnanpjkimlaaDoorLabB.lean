/- Contracts: slices.Index, slices.Contains at ints; label.Bears. -/
import Derived.Test.YtdmgnanpjkimlaaDoorLabOn
import Derived.Outline
set_option linter.unusedSimpArgs false
set_option linter.unusedVariables false
set_option linter.unusedSectionVars false
namespace Go.Proofs.YtdmgnanpjkimlaaDoor
open Go.ChangeShapes Go.WideShapes Go.ChangeAt Go.RowKit
set_option maxHeartbeats 800000

def idxAt (x : Int) : List Int → Nat → Int
  | [], _ => -1
  | y :: t, i => if x = y then i else idxAt x t (i + 1)
theorem idxAt_sign (x : Int) (L : List Int) (i : Nat) : decide (0 ≤ idxAt x L i) = decide (x ∈ L) := by
  induction L generalizing i with
  | nil => simp [idxAt]
  | cons y t ih =>
    unfold idxAt
    by_cases e : x = y
    · simp [e]
    · rw [if_neg e, ih]
      simp [e]
theorem idxAt_bounds (x : Int) (L : List Int) (i : Nat) : -1 ≤ idxAt x L i ∧ idxAt x L i ≤ i + L.length := by
  induction L generalizing i with
  | nil => simp [idxAt]
  | cons y t ih =>
    unfold idxAt
    have := ih (i + 1)
    simp only [List.length_cons]
    split <;> omega
/-- The numbers L lie in the block b. -/
def Lies (w : World) (b : Nat) (L : List Int) : Prop := ∀ j, j < L.length → w.cell? ⟨b, j, none⟩ = some (.int .i64 L[j]!)
theorem Index_nil (x : Int) (w : World) : Calls Tryd.prog 55 #[.slice none 0 0, .int .i64 x] w fun e w' => e = .returned (.int .i64 (-1)) ∧ w = w' := by
  go_enter Tryd.func55, Tryd.ntmps55
  go_wp2
  go_loop [5, 8] (fun _ i => i = .int .i64 0) (fun _ _ => 0)
  case atStart => rfl
  case round =>
    subst hrel
    go_wp2
    go_ret
    exact ⟨rfl, rfl⟩
theorem Index_of (x : Int) (b : Nat) (L : List Int) (w : World) (hL : Lies w b L) (hn : L.length ≤ 1000) :
    Calls Tryd.prog 55 #[.slice (some ⟨b, 0, none⟩) L.length L.length, .int .i64 x] w fun e w' => e = .returned (.int .i64 (idxAt x L 0)) ∧ w = w' := by
  go_enter Tryd.func55, Tryd.ntmps55
  go_wp2
  go_loop [5, 8] (fun _ i => ∃ k : Nat, k ≤ L.length ∧ i = .int .i64 k ∧ Hid (idxAt x L 0 = idxAt x (L.drop k) k)) (fun _ i => (L.length - intOf i).toNat)
  case atStart => exact ⟨0, by omega, rfl, rfl⟩
  case round =>
    obtain ⟨k, hk, rfl, A⟩ := hrel
    by_cases hlt : k < L.length
    · have hc := hL k hlt
      have hd : L.drop k = L[k]! :: L.drop (k + 1) := by rw [List.drop_eq_getElem_cons hlt, List.getElem!_eq_getElem?_getD]; simp [hlt]
      have hi : (k : Int) < (L.length : Int) := by omega
      generalize L[k]! = y at *
      by_cases hy : x = y
      · subst hy
        go_wp2
        go_ret
        exact ⟨by rw [A.out, hd]; simp [idxAt], rfl⟩
      · go_wp2
        go_round
        case rel => exact ⟨k + 1, by omega, by go_num, (show Hid _ from (by show idxAt x L 0 = _; rw [A.out, hd]; simp [idxAt, hy]))⟩
        case measure => simp [intOf]; omega
    · obtain rfl : k = L.length := by omega
      go_wp2
      go_ret
      exact ⟨by rw [A.out]; simp [idxAt], rfl⟩
theorem Contains_nil (x : Int) (w : World) : Calls Tryd.prog 31 #[.slice none 0 0, .int .i64 x] w fun e w' => e = .returned (.bool false) ∧ w = w' := by
  have K := Lib.hid (Index_nil x w)
  go_enter Tryd.func31, Tryd.ntmps31
  go_wp2_with (go_at_call 55; refine (K.out).mono ?_; rintro e w1 ⟨rfl, rfl⟩)
  go_ret
  exact ⟨rfl, rfl⟩
theorem Contains_of (x : Int) (b : Nat) (L : List Int) (w : World) (hL : Lies w b L) (hn : L.length ≤ 1000) :
    Calls Tryd.prog 31 #[.slice (some ⟨b, 0, none⟩) L.length L.length, .int .i64 x] w fun e w' => e = .returned (.bool (decide (x ∈ L))) ∧ w = w' := by
  have K := Lib.hid (Index_of x b L w hL hn)
  have hb := idxAt_bounds x L 0
  rw [← idxAt_sign x L 0]
  generalize idxAt x L 0 = r at *
  clear hL
  go_enter Tryd.func31, Tryd.ntmps31
  go_wp2_with (go_at_call 55; refine (K.out).mono ?_; rintro e w1 ⟨rfl, rfl⟩)
  go_ret
  exact ⟨rfl, rfl⟩

instance (m d : Int) : Decidable (Ex m d) := by unfold Ex; infer_instance
/-- The labels of a day, those that label.On returns. -/
def onD (m d : Int) : List Int := onL (lun (dayN m d)) (psn (dayN m d))
def bears (m d l : Int) : Bool := decide (Ex m d ∧ l ∈ onD m d)
theorem onL_len (l p : Int) : (onL l p).length ≤ 2 := by
  unfold onL
  repeat' split
  all_goals simp
theorem lies_new (w : World) (L : List Int) (T : TypeId) : Lies (w.alloc (.cells (L.map (Value.int .i64)).toArray T)) w.heap.size L := fun j hj => by
  have := World.cell?_alloc_mark w (L.map (Value.int .i64)).toArray T (0, 0) j
  rw [this]
  simp [hj]
theorem Bears_of (m d l : Int) (w : World) (hT : LTab w) :
    Calls Tryd.prog 19 #[.int .i64 m, .int .i64 d, .int .i64 l] w fun e w' => e = .returned (.bool (bears m d l)) ∧ Kept w w' := by
  by_cases h : Ex m d
  · have KO := Lib.hid (On_ok m d w hT h)
    have hb : bears m d l = decide (l ∈ onD m d) := by simp [bears, h]
    rw [hb]
    have hn : (onD m d).length ≤ 1000 := by have := onL_len (lun (dayN m d)) (psn (dayN m d)); unfold onD; omega
    unfold onD at *
    generalize onL (lun (dayN m d)) (psn (dayN m d)) = L at *
    have KC := Lib.hid (Contains_of l w.heap.size L _ (lies_new w L 3) hn)
    clear hT hb h
    go_enter Tryd.func19, Tryd.ntmps19
    go_wp2_with first | (go_at_call 32; refine (KO.out).mono ?_; rintro e w1 ⟨rfl, rfl⟩) | (go_at_call 31; refine (KC.out).mono ?_; rintro e w1 ⟨rfl, rfl⟩)
    go_ret
    exact ⟨rfl, (by repeat (first | with_reducible exact Kept.refl _ | with_reducible assumption | with_reducible refine Kept.drew ?_ | with_reducible refine Kept.drewN ?_ _ | with_reducible refine Kept.alloc ?_ _ | (with_reducible refine Kept.setCell ?_ (by first | exact Nat.le_refl _ | omega | (simp; done) | (simp; omega)) _) | (with_reducible refine Kept.trans ?_ (by with_reducible assumption))))⟩
  · have KO := Lib.hid (On_no m d w hT h)
    have hb : bears m d l = false := by simp [bears, h]
    rw [hb]
    have KC := Lib.hid (Contains_nil l w)
    clear hT hb h
    go_enter Tryd.func19, Tryd.ntmps19
    go_wp2_with first | (go_at_call 32; refine (KO.out).mono ?_; rintro e w1 ⟨rfl, rfl⟩) | (go_at_call 31; refine (KC.out).mono ?_; rintro e w1 ⟨rfl, rfl⟩)
    go_ret
    exact ⟨rfl, (by repeat (first | with_reducible exact Kept.refl _ | with_reducible assumption | with_reducible refine Kept.drew ?_ | with_reducible refine Kept.drewN ?_ _ | with_reducible refine Kept.alloc ?_ _ | (with_reducible refine Kept.setCell ?_ (by first | exact Nat.le_refl _ | omega | (simp; done) | (simp; omega)) _) | (with_reducible refine Kept.trans ?_ (by with_reducible assumption))))⟩
end Go.Proofs.YtdmgnanpjkimlaaDoor

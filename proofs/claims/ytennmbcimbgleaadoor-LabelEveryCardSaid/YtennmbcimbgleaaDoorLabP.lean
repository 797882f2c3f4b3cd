/- Pairs that label.Days lays; the days of the year. -/
import Derived.Test.YtennmbcimbgleaaDoorLabAw
set_option linter.unusedSimpArgs false
set_option linter.unusedVariables false
set_option linter.unusedSectionVars false
namespace Go.Proofs.YtennmbcimbgleaaDoor
open Go.ChangeShapes Go.WideShapes Go.ChangeAt Go.RowKit
set_option maxHeartbeats 1000000

theorem range_all : ∀ m : Fin 13, ∀ d : Fin 32, Ex (m.val : Int) (d.val : Int) → ∀ l ∈ onD (m.val : Int) (d.val : Int), 1 ≤ l ∧ l ≤ 31 := by decide +kernel
theorem bears_range (m d l : Int) (h : bears m d l = true) : 1 ≤ l ∧ l ≤ 31 := by
  unfold bears at h
  obtain ⟨hE, hl⟩ := of_decide_eq_true h
  obtain ⟨h1, h2, h3, h4⟩ := id hE
  have hb := mlen_bounds false m h1 h2
  have := range_all ⟨m.toNat, by omega⟩ ⟨d.toNat, by omega⟩
  simp only [Int.toNat_of_nonneg (show 0 ≤ m by omega), Int.toNat_of_nonneg (show 0 ≤ d by omega)] at this
  exact this hE l hl
/-- The slice .slice o L.length _ holds the pairs L. -/
def IsPairs (w : World) (o : Option Addr) (L : List (Int × Int)) : Prop := ∀ j, j < L.length → ∃ b, o = some ⟨b, 0, none⟩ ∧ w.cell? ⟨b, 2 * j, none⟩ = some (.int .i64 (L[j]!).1) ∧ w.cell? ⟨b, 2 * j + 1, none⟩ = some (.int .i64 (L[j]!).2)
theorem IsPairs.kept {w w' : World} {o : Option Addr} {L : List (Int × Int)} (h : IsPairs w o L) (k : Kept w w') : IsPairs w' o L := fun j hj => by
  obtain ⟨b, e, hc, hd⟩ := h j hj
  exact ⟨b, e, (k.cell _ _ (lt_cellL hc)).trans hc, (k.cell _ _ (lt_cellL hd)).trans hd⟩
theorem cellsP_len (L : List (Int × Int)) : (cellsP L).length = 2 * L.length := by
  induction L with
  | nil => rfl
  | cons x t ih =>
    have : cellsP (x :: t) = [.int .i64 x.1, .int .i64 x.2] ++ cellsP t := by simp [cellsP]
    rw [this, List.length_append, ih, List.length_cons]
    simp
    omega
theorem cellsP_at (L : List (Int × Int)) (j : Nat) (h : j < L.length) : (cellsP L)[2 * j]? = some (.int .i64 (L[j]!).1) ∧ (cellsP L)[2 * j + 1]? = some (.int .i64 (L[j]!).2) := by
  induction L generalizing j with
  | nil => simp at h
  | cons x t ih =>
    have hx : cellsP (x :: t) = .int .i64 x.1 :: .int .i64 x.2 :: cellsP t := by simp [cellsP]
    rw [hx]
    cases j with
    | zero => simp
    | succ j =>
      have := ih j (by simpa using h)
      rw [show 2 * (j + 1) = 2 * j + 1 + 1 from by omega]
      simpa using this
theorem pairs_of_owns {w : World} {b : Nat} {e : TypeId} {v : Value} {L : List (Int × Int)} (h : w.ownsRow b e 2 v L.length (cellsP L)) :
    ∃ o c, v = .slice o L.length c ∧ IsPairs w o L := by
  have hc := h
  obtain ⟨h1, ⟨rfl, h3⟩ | ⟨g, cap, cur, rfl, h4, h5, h6⟩⟩ := h
  · exact ⟨none, 0, by rw [h3], fun j hj => by omega⟩
  · refine ⟨some ⟨g, 0, none⟩, cap, rfl, fun j hj => ?_⟩
    obtain ⟨p1, p2⟩ := cellsP_at L j hj
    have a1 := hc.cells (g := g) rfl (2 * j) (.int .i64 (L[j]!).1) p1
    have a2 := hc.cells (g := g) rfl (2 * j + 1) (.int .i64 (L[j]!).2) p2
    rw [Addr.add_lit, Nat.zero_add] at a1 a2
    exact ⟨g, rfl, a1, a2⟩
theorem Days_pairs (l : Int) (w : World) (hT : LTab w) :
    Calls Tryd.prog 16 #[.int .i64 l] w fun e w' => ∃ o c, e = .returned (.slice o (bearsL l dayList).length c) ∧ IsPairs w' o (bearsL l dayList) ∧ Kept w w' := by
  refine (Days_of l w hT).mono ?_
  rintro e w' ⟨v, rfl, ho, hk⟩
  obtain ⟨o, c, rfl, hp⟩ := pairs_of_owns ho
  exact ⟨o, c, rfl, hp, hk⟩
theorem bearsL_len (l : Int) : (bearsL l dayList).length ≤ 365 := by
  have := List.length_filter_le (fun p : Int × Int => bears p.1 p.2 l) dayList
  rw [dayList_len] at this
  exact this
/-- The days that bear l ahead of the day N of the year. -/
def ahd (l : Int) (N : Nat) : Nat := (bearsL l (dayList.take N)).length
theorem ahd_step (l m d : Int) (h : Ex m d) : ahd l ((dayN m d).toNat + 1) = ahd l (dayN m d).toNat + (if bears m d l then 1 else 0) := by
  unfold ahd
  rw [dayList_take m d h]
  cases hb : bears m d l with
  | true => rw [bearsL_hit l _ (x := (m, d)) hb]; simp
  | false => rw [bearsL_miss l _ (x := (m, d)) hb]; simp
theorem ahd_at (l m d : Int) (h : Ex m d) (hb : bears m d l = true) : ahd l (dayN m d).toNat < (bearsL l dayList).length ∧ (bearsL l dayList)[ahd l (dayN m d).toNat]! = (m, d) := by
  have e1 : dayList = dayList.take (dayN m d).toNat ++ ((m, d) :: dayList.drop ((dayN m d).toNat + 1)) := by
    have hg := dayList_get m d h
    obtain ⟨hlt, hv⟩ := List.getElem?_eq_some_iff.1 hg
    rw [← hv, ← List.drop_eq_getElem_cons hlt, List.take_append_drop]
  have e2 : bearsL l dayList = bearsL l (dayList.take (dayN m d).toNat) ++ ((m, d) :: bearsL l (dayList.drop ((dayN m d).toNat + 1))) := by
    conv => lhs; rw [e1]
    simp [bearsL, hb]
  unfold ahd
  rw [e2]
  constructor
  · simp
  · rw [List.getElem!_eq_getElem?_getD, List.getElem?_append_right (Nat.le_refl _)]
    simp
theorem ahd_end (l : Int) : ahd l 365 = (bearsL l dayList).length := by
  unfold ahd
  rw [List.take_of_length_le (by rw [dayList_len]; decide)]
theorem ahd_le (l : Int) (N : Nat) : ahd l N ≤ 365 := by
  unfold ahd bearsL
  have h1 := List.length_filter_le (fun p : Int × Int => bears p.1 p.2 l) (dayList.take N)
  have h2 : (dayList.take N).length ≤ 365 := by rw [List.length_take, dayList_len]; omega
  omega
theorem dayOfYear_of (m d : Int) (w : World) (h1 : 1 ≤ m) (h2 : m ≤ 13) (h3 : 0 ≤ d) (h4 : d ≤ 1000) :
    Calls Tryd.prog 18 #[.int .i64 m, .int .i64 d] w fun e w' => e = .returned (.int .i64 (cum false m + d)) ∧ w = w' := by
  have KL := Lib.hid (fun b m w => rLen_any b m w)
  go_enter Tryd.func18, Tryd.ntmps18
  go_wp2

  go_loop [1, 5] (fun x i => ∃ k : Int, 1 ≤ k ∧ k ≤ m ∧ i = .int .i64 k ∧ x = .int .i64 (cum false k + d)) (fun _ i => (13 - intOf i).toNat)
  case atStart => exact ⟨1, by omega, by omega, rfl, by rw [show cum false 1 = 0 from by decide]; go_num⟩
  case round =>
    obtain ⟨k, k1, k2, rfl, rfl⟩ := hrel
    have KB := cum_bounds false k k1 (by omega)
    by_cases hlt : k < m
    · have KC := Lib.hid (cum_succ false k k1 (by omega))
      have KM := mlen_bounds false k k1 (by omega)
      go_wp2_with (go_at_call 17; refine (KL.out _ _ _).mono ?_; rintro e w1 ⟨rfl, rfl⟩)
      go_round
      case rel => exact ⟨k + 1, by omega, by omega, by go_num, by rw [KC.out]; go_num⟩
      case measure => simp [intOf]; omega
    · obtain rfl : k = m := by omega
      go_wp2
      go_ret
      exact ⟨rfl, rfl⟩
end Go.Proofs.YtennmbcimbgleaaDoor

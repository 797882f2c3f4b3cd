/- Contracts and plain lemmas: Lib, Cal, RefL, RefA, RefF. -/
import Derived.Test.YtblaphkaklocfaaGreatDoorRows
import Derived.WalkKit
import Derived.ProofKit
import Derived.OpenShut
import Derived.Below
import Derived.Lib.Hide
import Derived.Deep.Draws
import Derived.Deep.RegionHeld3
set_option linter.unusedSimpArgs false
set_option linter.unusedVariables false
set_option linter.unusedSectionVars false
/- Plain lemmas and the world relation that all later texts use; no program in sight. -/
namespace Go.Proofs.YtblaphkaklocfaaGreatDoor
open Go.ChangeShapes Go.WideShapes Go.ChangeAt Go.RowKit

/-- What was there is as it was. -/
def Kept (w w' : World) : Prop := Below w.heap.size w w'
theorem Kept.refl (w : World) : Kept w w := Below.refl _ _
theorem Kept.trans {a b c : World} (h : Kept a b) (k : Kept b c) : Kept a c := Below.trans h (Below.mono k h.size)
theorem Kept.drew {a b : World} (h : Kept a b) : Kept a b.drew := Below.drew h
theorem Kept.drewN {a b : World} (h : Kept a b) (n : Nat) : Kept a (b.drewN n) := ⟨h.os, h.tape, h.output, h.size, h.block⟩
theorem Kept.alloc {a b : World} (h : Kept a b) (o : Obj) : Kept a (b.alloc o) := Below.alloc h h.size o
theorem Kept.setCell {a b : World} (h : Kept a b) {p : Addr} (hp : a.heap.size ≤ p.block) (u : Value) : Kept a (b.setCell p u) := Below.setCell h hp u
theorem Kept.size {a b : World} (h : Kept a b) : a.heap.size ≤ b.heap.size := Below.size h
theorem Kept.cell {a b : World} (h : Kept a b) (k o : Nat) (hk : k < a.heap.size) : b.cell? ⟨k, o, none⟩ = a.cell? ⟨k, o, none⟩ := Below.cell (p := ⟨k, o, none⟩) h hk
theorem Kept.frozen {a b : World} (h : Kept a b) (k o : Nat) (hk : k < a.heap.size) : b.frozen? ⟨k, o, none⟩ = a.frozen? ⟨k, o, none⟩ := Below.frozen (p := ⟨k, o, none⟩) h hk
theorem Kept.block {a b : World} (h : Kept a b) (k : Nat) (hk : k < a.heap.size) : b.heap[k]? = a.heap[k]? := Below.block h k hk

theorem kept_cells {W w1 : World} (hb : Kept W w1) : (∀ b o, b < W.heap.size → w1.cell? ⟨b, o, none⟩ = W.cell? ⟨b, o, none⟩) ∧ (∀ b o, b < W.heap.size → w1.frozen? ⟨b, o, none⟩ = W.frozen? ⟨b, o, none⟩) :=
  ⟨fun b o h => hb.cell b o h, fun b o h => hb.frozen b o h⟩

/-- What a region that holds a call is told of every world on its way: what was there at its begin is as it was. -/
theorem held_of {W w1 : World} (hb : Kept W w1) : Kept W w1 ∧ (∀ b o, b < W.heap.size → w1.cell? ⟨b, o, none⟩ = W.cell? ⟨b, o, none⟩) :=
  ⟨hb, fun b o h => hb.cell b o h⟩

section
variable {H : Type} {enc : TypeId × Value → H} {P : Program}
/-- The row's last step where only 'Kept' is known of the world. -/
theorem post_of_kept {f : Func} {s : ChangeSpec} {apart fresh handsOn again : Bool} {W W' : World} {args : Array Value} {v : Value} {ds gs : List (DataW H)} {before pa pv : List MemPlace}
    (hW : DataW.Whole enc P f.params.toList s.vars apart W args.toList ds gs before)
    (hres : ∀ (b : Nat) (sp : Nat → Bool) (hd : Bool), DataW.TrodAll enc P W' b sp hd f.resultTypes.toList (v.resultList f.resultTypes.size) (s.fn H (ds ++ gs)).results [])
    (hargs : ∀ sp : Nat → Bool, (∀ p ∈ before, sp p.block = true) → DataW.TrodAll enc P W' 0 sp true f.params.toList args.toList (s.fn H (ds ++ gs)).args pa)
    (hvars : ∀ sp : Nat → Bool, (∀ p ∈ before, sp p.block = true) → DataW.TrodVars enc P W' sp s.vars (s.fn H (ds ++ gs)).vars pv)
    (hps : before = pa ++ pv) (hb : Kept W W')
    (hok : ∀ (j : Nat) (t : TypeId) (r : Value), f.resultTypes[j]? = some t → (v.resultList f.resultTypes.size)[j]? = some r → Value.okWide P W' .any 0 t r) :
    s.post enc P f apart fresh handsOn again W args v W' := by
  have hlt : ∀ p ∈ before, p.block < W.heap.size := fun p hp => hW.lt p hp
  have hold : ∀ p ∈ before, (fun b => decide (b < W.heap.size)) p.block = true := fun p hp => by simpa using hlt p hp
  refine ⟨ds, gs, before, [], pa, pv, hW, hres _ _ _, hargs _ hold, hvars _ hold, World.keptBut_mono (fun p hp => ⟨hp, ?_⟩) (Below.frame hb (· ∈ before)), fun _ => ?_⟩
  · rw [hps, List.mem_append] at hp
    exact Or.inr hp
  · obtain ⟨_, _, _, _, _, hz, hn⟩ := hW
    refine ⟨hok, _, _, ([] ++ pa) ++ pv, ⟨[] ++ pa, pv, trodAll_append (hargs _ (fun _ _ => rfl)) (hres _ _ _), hvars _ (fun _ _ => rfl), rfl, ?_, ?_⟩, ?_⟩
    · intro b off hp
      have hin : MemPlace.cell b off ∈ before := by rw [hps]; simpa using hp
      rw [Below.frozen hb (hlt _ hin)]
      exact hz b off hin
    · intro ha
      have := hn ha
      rw [hps] at this
      simpa using this
    · intro p hp _
      rw [hps]
      simpa using hp
end

/-! ### Division -/
theorem tdiv_neg_bounds (a b : Int) (ha : a ≤ 0) (hb : 1 ≤ b) : a ≤ a.tdiv b ∧ a.tdiv b ≤ 0 ∧ a ≤ a.tdiv b * b ∧ a.tdiv b * b ≤ 0 := by
  obtain ⟨n, rfl⟩ : ∃ n : Nat, a = -(n : Int) := ⟨(-a).toNat, by omega⟩
  obtain ⟨m, rfl⟩ : ∃ m : Nat, b = (m : Int) := ⟨b.toNat, by omega⟩
  rw [Int.neg_tdiv]
  have h : ((n : Int).tdiv (m : Int)) = ((n / m : Nat) : Int) := by simp [Int.tdiv]
  rw [h, Int.neg_mul]
  have h1 : n / m * m ≤ n := Nat.div_mul_le_self _ _
  have h2 : n / m ≤ n := Nat.div_le_self _ _
  generalize n / m = q at *
  have h3 : (q : Int) * (m : Int) = ((q * m : Nat) : Int) := by simp
  rw [h3]
  omega
theorem tdiv_eq (a b : Int) (ha : a ≤ 0) (hb : 1 ≤ b) : (a.tdiv b * b = a → a.tdiv b = a / b) ∧ (a.tdiv b * b ≠ a → a.tdiv b - 1 = a / b) := by
  have h := Int.mul_tdiv_add_tmod a b
  constructor
  · intro h1
    have : a / b = a.tdiv b := by
      conv => lhs; rw [← h1]
      exact Int.mul_ediv_cancel _ (by omega)
    exact this.symm
  · intro h1
    have h0 : a.tdiv b * b = b * a.tdiv b := Int.mul_comm _ _
    have hneg : a.tmod b < 0 := by
      have h2 : a.tmod b ≤ 0 := by
        have := (tdiv_neg_bounds a b ha hb).2.2.1
        omega
      have h3 : a.tmod b ≠ 0 := fun e => h1 (by omega)
      omega
    have hlt : -b < a.tmod b := by
      have := Int.lt_tmod_of_pos a (show 0 < b by omega)
      omega
    have e : a = (a.tmod b + b) + b * (a.tdiv b - 1) := by
      rw [Int.mul_sub]; omega
    conv => rhs; rw [e]
    rw [Int.add_mul_ediv_left _ _ (by omega), Int.ediv_eq_zero_of_lt (by omega) (by omega)]
    omega
theorem ediv_bounds (a b : Int) (hb : 1 ≤ b) : a / b * b ≤ a ∧ a < a / b * b + b := by
  have h1 := Int.mul_ediv_add_emod a b
  have h2 := Int.emod_nonneg a (show b ≠ 0 by omega)
  have h3 := Int.emod_lt_of_pos a (show 0 < b by omega)
  have h4 : a / b * b = b * (a / b) := Int.mul_comm _ _
  omega
theorem emod_def' (a b : Int) : a - b * (a / b) = a % b := by
  have h1 := Int.mul_ediv_add_emod a b
  omega
theorem emod_def'' (a b : Int) : a - a / b * b = a % b := by
  rw [Int.mul_comm]; exact emod_def' a b
theorem ret_int {k : IntKind} {a b : Int} (h : a = b) : Ending.returned (.int k a) = .returned (.int k b) := by rw [h]
theorem ret_bool {a b : Bool} (h : a = b) : Ending.returned (.bool a) = .returned (.bool b) := by rw [h]
theorem wf_bounds {a : Int} (h : (Lit.int .i64 a).wf = true) : -9223372036854775808 ≤ a ∧ a ≤ 9223372036854775807 := by
  have := bounds_i64 h
  omega
theorem wf_bounds8 {a : Int} (h : (Lit.int .u8 a).wf = true) : 0 ≤ a ∧ a ≤ 255 := by
  have := bounds_u8 h
  omega
end Go.Proofs.YtblaphkaklocfaaGreatDoor
/- Plain arithmetic of both calendars (1: Julian, 2: Gregorian); no program in sight. -/
namespace Go.Proofs.YtblaphkaklocfaaGreatDoor

/-- Leap years. -/
def lp (k y : Int) : Bool := if k = 1 then decide (y % 4 = 0) else decide (y % 4 = 0 ∧ (y % 100 ≠ 0 ∨ y % 400 = 0))
/-- The length of a month. -/
def mlen (b : Bool) (m : Int) : Int := if m < 1 ∨ 12 < m then 0 else if m = 2 then (if b then 29 else 28) else 30 + (m + m / 8) % 2
/-- The days of the months before a month. -/
def cum (b : Bool) (m : Int) : Int := if m ≤ 1 then 0 else if m = 2 then 31 else (if b then 1 else 0) + (153 * (m - 3) + 2) / 5 + 59
/-- The number of 1 January. -/
def fst (k y : Int) : Int := if k = 1 then 365 * (y - 1) + (y - 1) / 4 - 1 else 1 + 365 * (y - 1) + (y - 1) / 4 - (y - 1) / 100 + (y - 1) / 400
/-- The number of a date. -/
def num (k y m d : Int) : Int := fst k y + cum (lp k y) m + d - 1
/-- A valid date. -/
def OkD (k y m d : Int) : Prop := 1 ≤ y ∧ y ≤ 1000000000 ∧ 1 ≤ m ∧ m ≤ 12 ∧ 1 ≤ d ∧ d ≤ mlen (lp k y) m

theorem month_cases (m : Int) (h : 1 ≤ m) (h' : m ≤ 12) : m = 1 ∨ m = 2 ∨ m = 3 ∨ m = 4 ∨ m = 5 ∨ m = 6 ∨ m = 7 ∨ m = 8 ∨ m = 9 ∨ m = 10 ∨ m = 11 ∨ m = 12 := by omega
theorem cum_succ (b : Bool) (m : Int) (h : 1 ≤ m) (h' : m ≤ 12) : cum b (m + 1) = cum b m + mlen b m := by
  rcases month_cases m h h' with rfl | rfl | rfl | rfl | rfl | rfl | rfl | rfl | rfl | rfl | rfl | rfl <;> cases b <;> decide
theorem mlen_bounds (b : Bool) (m : Int) (h : 1 ≤ m) (h' : m ≤ 12) : 28 ≤ mlen b m ∧ mlen b m ≤ 31 := by
  rcases month_cases m h h' with rfl | rfl | rfl | rfl | rfl | rfl | rfl | rfl | rfl | rfl | rfl | rfl <;> cases b <;> decide
theorem mlen_out (b : Bool) (m : Int) (h : m < 1 ∨ 12 < m) : mlen b m = 0 := if_pos h
theorem cum_bounds (b : Bool) (m : Int) (h : 1 ≤ m) (h' : m ≤ 13) : 0 ≤ cum b m ∧ cum b m ≤ 366 := by
  unfold cum
  split
  · omega
  · split
    · omega
    · split <;> omega
theorem cum_13 (b : Bool) : cum b 13 = 365 + if b then 1 else 0 := by cases b <;> decide
theorem cum_1 (b : Bool) : cum b 1 = 0 := rfl
theorem cum_mono (b : Bool) (m m' : Int) (h : 1 ≤ m) (hm : m < m') (h' : m' ≤ 13) : cum b m + mlen b m ≤ cum b m' := by
  have h1 : ∀ j : Nat, m + 1 + j ≤ 13 → cum b (m + 1) ≤ cum b (m + 1 + j) := by
    intro j
    induction j with
    | zero => intro _; simp
    | succ j ih =>
      intro hj
      have h2 := ih (by omega)
      have h3 := cum_succ b (m + 1 + j) (by omega) (by omega)
      have h4 := mlen_bounds b (m + 1 + j) (by omega) (by omega)
      have e : m + 1 + ((j + 1 : Nat) : Int) = m + 1 + j + 1 := by omega
      rw [e, h3]
      omega
  have h2 := h1 (m' - (m + 1)).toNat (by omega)
  rw [show m + 1 + (((m' - (m + 1)).toNat : Nat) : Int) = m' from by omega] at h2
  have h3 := cum_succ b m h (by omega)
  omega

theorem lp_if (k y : Int) : (if lp k y then (1 : Int) else 0) = if k = 1 then (if y % 4 = 0 then 1 else 0) else (if y % 4 = 0 ∧ (y % 100 ≠ 0 ∨ y % 400 = 0) then 1 else 0) := by
  unfold lp
  by_cases hk : k = 1
  · simp [hk]
  · simp [hk]
theorem fst_succ (k y : Int) : fst k (y + 1) = fst k y + 365 + if lp k y then 1 else 0 := by
  rw [lp_if]
  unfold fst
  by_cases hk : k = 1
  · simp only [hk, if_true]
    split <;> omega
  · simp only [hk, if_false]
    split <;> omega
theorem fst_mono (k y z : Int) (h : y ≤ z) : fst k y + 365 * (z - y) ≤ fst k z := by
  have h1 : ∀ j : Nat, fst k y + 365 * j ≤ fst k (y + j) := by
    intro j
    induction j with
    | zero => simp
    | succ j ih =>
      have h2 := fst_succ k (y + j)
      have h3 : (0 : Int) ≤ if lp k (y + j) then 1 else 0 := by split <;> omega
      rw [show y + ((j + 1 : Nat) : Int) = y + j + 1 from by omega, h2]
      omega
  have h2 := h1 (z - y).toNat
  rw [show (((z - y).toNat : Nat) : Int) = z - y from by omega, show y + (z - y) = z from by omega] at h2
  exact h2
theorem fst_one (k : Int) : fst k 1 = if k = 1 then -1 else 1 := by
  unfold fst; by_cases hk : k = 1 <;> simp [hk]
theorem fst_top (k : Int) : fst k 1000000001 = if k = 1 then 365249999999 else 365242500001 := by
  unfold fst; by_cases hk : k = 1 <;> simp [hk]
theorem fst_bounds (k y : Int) (h : 1 ≤ y) (h' : y ≤ 1000000001) : -1 ≤ fst k y ∧ fst k y ≤ 365249999999 := by
  have h1 := fst_mono k 1 y h
  have h2 := fst_mono k y 1000000001 h'
  rw [fst_one] at h1
  rw [fst_top] at h2
  split at h1 <;> split at h2 <;> omega
theorem num_year (k y m d : Int) (h : OkD k y m d) : fst k y ≤ num k y m d ∧ num k y m d < fst k (y + 1) := by
  obtain ⟨h1, h2, h3, h4, h5, h6⟩ := h
  have a := cum_bounds (lp k y) m h3 (by omega)
  have b := cum_mono (lp k y) m 13 h3 (by omega) (by omega)
  rw [cum_13] at b
  rw [fst_succ]
  unfold num
  omega
theorem num_bounds (k y m d : Int) (h : OkD k y m d) : fst k 1 ≤ num k y m d ∧ num k y m d < fst k 1000000001 := by
  have h1 := num_year k y m d h
  have h2 := fst_mono k 1 y h.1
  have h3 := fst_mono k (y + 1) 1000000001 (by have := h.2.1; omega)
  have := h.1
  have := h.2.1
  omega
/-- Dates in their order. -/
def Before (y m d y' m' d' : Int) : Prop := y < y' ∨ y = y' ∧ (m < m' ∨ m = m' ∧ d < d')
theorem num_lt (k y m d y' m' d' : Int) (h : OkD k y m d) (h' : OkD k y' m' d') (hb : Before y m d y' m' d') : num k y m d < num k y' m' d' := by
  rcases hb with hb | ⟨rfl, hb | ⟨rfl, hb⟩⟩
  · have h1 := num_year k y m d h
    have h2 := num_year k y' m' d' h'
    have h3 := fst_mono k (y + 1) y' (by omega)
    omega
  · obtain ⟨_, _, h3, h4, h5, h6⟩ := h
    obtain ⟨_, _, g3, g4, g5, g6⟩ := h'
    have a := cum_mono (lp k y) m m' h3 hb (by omega)
    unfold num
    omega
  · unfold num
    omega
theorem before_total (y m d y' m' d' : Int) : Before y m d y' m' d' ∨ (y = y' ∧ m = m' ∧ d = d') ∨ Before y' m' d' y m d := by unfold Before; omega
theorem num_inj (k y m d y' m' d' : Int) (h : OkD k y m d) (h' : OkD k y' m' d') (e : num k y m d = num k y' m' d') : y = y' ∧ m = m' ∧ d = d' := by
  rcases before_total y m d y' m' d' with hb | hb | hb
  · have := num_lt k _ _ _ _ _ _ h h' hb; omega
  · exact hb
  · have := num_lt k _ _ _ _ _ _ h' h hb; omega
theorem num_lt_iff (k y m d y' m' d' : Int) (h : OkD k y m d) (h' : OkD k y' m' d') : num k y m d < num k y' m' d' ↔ Before y m d y' m' d' := by
  constructor
  · intro hl
    rcases before_total y m d y' m' d' with hb | ⟨rfl, rfl, rfl⟩ | hb
    · exact hb
    · omega
    · have := num_lt k _ _ _ _ _ _ h' h hb; omega
  · exact num_lt k _ _ _ _ _ _ h h'

/-- The month of a day of the year, from 0. -/
theorem month_of (b : Bool) (r : Int) (h : 0 ≤ r) (h' : r < cum b 13) : ∃ m, 1 ≤ m ∧ m ≤ 12 ∧ cum b m ≤ r ∧ r < cum b m + mlen b m := by
  have h1 : ∀ j : Nat, j ≤ 12 → (r < cum b (1 + j) → ∃ m, 1 ≤ m ∧ m ≤ 12 ∧ cum b m ≤ r ∧ r < cum b m + mlen b m) := by
    intro j
    induction j with
    | zero => intro _ h2; rw [show (1 : Int) + ((0 : Nat) : Int) = 1 from rfl, cum_1] at h2; omega
    | succ j ih =>
      intro hj h2
      by_cases h3 : r < cum b (1 + j)
      · exact ih (by omega) h3
      · have h4 := cum_succ b (1 + j) (by omega) (by omega)
        rw [show (1 : Int) + ((j + 1 : Nat) : Int) = 1 + j + 1 from by omega, h4] at h2
        exact ⟨1 + j, by omega, by omega, by omega, h2⟩
  exact h1 12 (by omega) h'
/-- The year of a day. -/
theorem year_of (k n : Int) (h : fst k 1 ≤ n) (h' : n < fst k 1000000001) : ∃ y, 1 ≤ y ∧ y ≤ 1000000000 ∧ fst k y ≤ n ∧ n < fst k (y + 1) := by
  have h1 : ∀ j : Nat, n < fst k (1 + j) → ∃ y : Int, 1 ≤ y ∧ y ≤ j ∧ fst k y ≤ n ∧ n < fst k (y + 1) := by
    intro j
    induction j with
    | zero => intro h2; rw [show (1 : Int) + ((0 : Nat) : Int) = 1 from rfl] at h2; omega
    | succ j ih =>
      intro h2
      by_cases h3 : n < fst k (1 + j)
      · obtain ⟨y, a, b, c, d⟩ := ih h3
        exact ⟨y, a, by omega, c, d⟩
      · exact ⟨1 + j, by omega, by omega, by omega, by rwa [show (1 : Int) + j + 1 = 1 + ((j + 1 : Nat) : Int) from by omega]⟩
  obtain ⟨y, a, b, c, d⟩ := h1 (Nat.mul 1000000 1000) (by
    have e : (1 : Int) + ((Nat.mul 1000000 1000 : Nat) : Int) = 1000000001 := by decide
    rw [e]; exact h')
  refine ⟨y, a, ?_, c, d⟩
  have e : ((Nat.mul 1000000 1000 : Nat) : Int) = 1000000000 := by decide
  omega
theorem year_unique (k n y z : Int) (a : fst k y ≤ n) (b : n < fst k (y + 1)) (c : fst k z ≤ n) (d : n < fst k (z + 1)) : y = z := by
  rcases Int.lt_trichotomy y z with h | h | h
  · have := fst_mono k (y + 1) z (by omega); omega
  · exact h
  · have := fst_mono k (z + 1) y (by omega); omega
theorem date_of (k n : Int) (h : fst k 1 ≤ n) (h' : n < fst k 1000000001) : ∃ y m d, OkD k y m d ∧ num k y m d = n := by
  obtain ⟨y, a, b, c, e⟩ := year_of k n h h'
  rw [fst_succ] at e
  obtain ⟨m, f, g, i, j⟩ := month_of (lp k y) (n - fst k y) (by omega) (by rw [cum_13]; omega)
  exact ⟨y, m, n - fst k y - cum (lp k y) m + 1, ⟨a, b, f, g, by omega, by omega⟩, by unfold num; omega⟩
/-- The next day of the calendar. -/
theorem num_next (k y m d : Int) (h : OkD k y m d) :
    (d < mlen (lp k y) m → OkD k y m (d + 1) ∧ num k y m (d + 1) = num k y m d + 1) ∧
    (¬ d < mlen (lp k y) m → m < 12 → OkD k y (m + 1) 1 ∧ num k y (m + 1) 1 = num k y m d + 1) ∧
    (¬ d < mlen (lp k y) m → ¬ m < 12 → num k (y + 1) 1 1 = num k y m d + 1) := by
  obtain ⟨h1, h2, h3, h4, h5, h6⟩ := h
  refine ⟨fun a => ⟨⟨h1, h2, h3, h4, by omega, by omega⟩, by unfold num; omega⟩, fun a b => ?_, fun a b => ?_⟩
  · have c := cum_succ (lp k y) m h3 h4
    have e := mlen_bounds (lp k y) (m + 1) (by omega) (by omega)
    exact ⟨⟨h1, h2, by omega, by omega, by omega, by omega⟩, by unfold num; rw [c]; omega⟩
  · obtain rfl : m = 12 := by omega
    have c := cum_succ (lp k y) 12 h3 h4
    rw [show (12 : Int) + 1 = 13 from rfl, cum_13] at c
    unfold num
    rw [cum_1, fst_succ]
    omega
theorem fst_lt (k y : Int) : fst k y < fst k (y + 1) := by
  have := fst_mono k y (y + 1) (by omega); omega
end Go.Proofs.YtblaphkaklocfaaGreatDoor
/- Contract: reference 02, Length. -/
namespace Go.Proofs.YtblaphkaklocfaaGreatDoor
open Go.ChangeShapes Go.WideShapes Go.ChangeAt Go.RowKit
set_option maxHeartbeats 800000

theorem rLen_any (b : Bool) (m : Int) (w : World) :
    Calls Tryz.prog 49 #[.bool b, .int .i64 m] w fun e w' => e = .returned (.int .i64 (mlen b m)) ∧ w = w' := by
  by_cases h : m < 1 ∨ 12 < m
  · rw [mlen_out _ _ h]
    rcases h with h | h
    all_goals
      go_enter Tryz.func49, Tryz.ntmps49
      go_wp2
      go_ret
      exact ⟨rfl, rfl⟩
  · rcases month_cases m (by omega) (by omega) with rfl | rfl | rfl | rfl | rfl | rfl | rfl | rfl | rfl | rfl | rfl | rfl
    · go_enter Tryz.func49, Tryz.ntmps49
      go_wp2
      go_ret
      exact ⟨rfl, rfl⟩
    · cases b
      · go_enter Tryz.func49, Tryz.ntmps49
        go_wp2
        go_ret
        exact ⟨rfl, rfl⟩
      · go_enter Tryz.func49, Tryz.ntmps49
        go_wp2
        go_ret
        exact ⟨rfl, rfl⟩
    all_goals
      go_enter Tryz.func49, Tryz.ntmps49
      go_wp2
      go_ret
      exact ⟨rfl, rfl⟩
end Go.Proofs.YtblaphkaklocfaaGreatDoor
/- Contracts: references 01, 02 (In). -/
namespace Go.Proofs.YtblaphkaklocfaaGreatDoor
open Go.ChangeShapes Go.WideShapes Go.ChangeAt Go.RowKit
set_option maxHeartbeats 400000

theorem own_knob : ownKnob Tryz.prog.godebug = none := by kernel_rfl
theorem Div_nn (a b : Int) (w : World) (ha : 0 ≤ a) (ha' : a ≤ 9223372036854775807) (hb : 1 ≤ b) (hb' : b ≤ 4611686018427387904) :
    Calls Tryz.prog 100 #[.int .i64 a, .int .i64 b] w fun e w' => e = .returned (.int .i64 (a / b)) ∧ w = w' := by
  have h0 : 0 ≤ a / b := Int.ediv_nonneg ha (by omega)
  have h1 : a / b * b ≤ a := (ediv_bounds _ _ hb).1
  have h2 : 0 ≤ a / b * b := Int.mul_nonneg h0 (by omega)
  have h3 : decide (a < 0) = false := by simp; omega
  have h4 : decide (b < 0) = false := by simp; omega
  go_enter Tryz.func100, Tryz.ntmps100
  go_wp2
  all_goals go_ret
  all_goals exact ⟨rfl, rfl⟩

theorem ediv_low (a b : Int) (ha : a < 0) (hb : 1 ≤ b) : a ≤ a / b ∧ a / b < 0 := by
  obtain ⟨h1, h2, _, _⟩ := tdiv_neg_bounds a b (by omega) hb
  obtain ⟨h3, h4⟩ := ediv_bounds a b hb
  constructor
  · by_cases h : a / b < a
    · have h5 : a / b * b ≤ (a - 1) * b := Int.mul_le_mul_of_nonneg_right (by omega) (by omega)
      have h6 : (a - 1) * b = a * b - b := by rw [Int.sub_mul, Int.one_mul]
      have h7 : a * b ≤ a * 1 := Int.mul_le_mul_of_nonpos_left (by omega) (by omega)
      omega
    · omega
  · by_cases h : 0 ≤ a / b
    · have := Int.mul_nonneg h (show 0 ≤ b by omega); omega
    · omega
theorem Div_neg (a b : Int) (w : World) (ha : a < 0) (ha' : -9223372036854775808 ≤ a) (hb : 1 ≤ b) (hb' : b ≤ 4611686018427387904) :
    Calls Tryz.prog 100 #[.int .i64 a, .int .i64 b] w fun e w' => e = .returned (.int .i64 (a / b)) ∧ w = w' := by
  obtain ⟨h0, h1, h2, h5⟩ := tdiv_neg_bounds a b (by omega) hb
  obtain ⟨h6, h7⟩ := tdiv_eq a b (by omega) hb
  have H6 := Lib.hid h6
  have H7 := Lib.hid h7
  clear h6 h7
  have h3 : decide (a < 0) = true := by simp; omega
  have h4 : decide (b < 0) = false := by simp; omega
  go_enter Tryz.func100, Tryz.ntmps100
  go_wp2
  · rename_i h
    go_ret
    exact ⟨ret_int (H6.out h), rfl⟩
  · rename_i h _
    go_ret
    have h8 := H7.out h
    have h9 := ediv_low a b ha hb
    exact ⟨ret_int (by rw [h8]; unfold wrap64; omega), rfl⟩

theorem Div_any (a b : Int) (w : World) (ha : -9223372036854775808 ≤ a) (ha' : a ≤ 9223372036854775807) (hb : 1 ≤ b) (hb' : b ≤ 4611686018427387904) :
    Calls Tryz.prog 100 #[.int .i64 a, .int .i64 b] w fun e w' => e = .returned (.int .i64 (a / b)) ∧ w = w' := by
  by_cases h : 0 ≤ a
  · exact Div_nn a b w h ha' hb hb'
  · exact Div_neg a b w (by omega) ha hb hb'

theorem mod_wraps (a b : Int) (ha : -9223372036854775808 ≤ a) (ha' : a ≤ 9223372036854775807) (hb : 1 ≤ b) (hb' : b ≤ 4611686018427387904) : wrap64 (a - wrap64 (b * (a / b))) = a % b := by
  have h0 := Int.emod_nonneg a (show b ≠ 0 by omega)
  have h1 := Int.emod_lt_of_pos a (show 0 < b by omega)
  have h2 := emod_def' a b
  generalize b * (a / b) = t at *
  unfold wrap64
  omega
theorem Mod_any (a b : Int) (w : World) (ha : -9223372036854775808 ≤ a) (ha' : a ≤ 9223372036854775807) (hb : 1 ≤ b) (hb' : b ≤ 4611686018427387904) :
    Calls Tryz.prog 51 #[.int .i64 a, .int .i64 b] w fun e w' => e = .returned (.int .i64 (a % b)) ∧ w = w' := by
  have H2 := Lib.hid (mod_wraps a b ha ha' hb hb')
  go_enter Tryz.func51, Tryz.ntmps51
  go_wp2_with (go_at_call 100; refine (Div_any _ _ _ (by omega) (by omega) (by omega) (by omega)).mono ?_; rintro e w' ⟨rfl, rfl⟩)
  go_ret
  exact ⟨ret_int H2.out, rfl⟩

theorem In_yes (y : Int) (w : World) (h : 1 ≤ y) (h' : y ≤ 1000000000) :
    Calls Tryz.prog 34 #[.int .i64 y] w fun e w' => e = .returned (.bool true) ∧ w = w' := by
  have h3 : decide (y ≤ 1000000000) = true := by simp; omega
  go_enter Tryz.func34, Tryz.ntmps34
  go_wp2
  go_ret
  exact ⟨by first | rfl | (simp; done) | (simp; omega), rfl⟩

theorem In_no (y : Int) (w : World) (h : y < 1 ∨ 1000000000 < y) :
    Calls Tryz.prog 34 #[.int .i64 y] w fun e w' => e = .returned (.bool false) ∧ w = w' := by
  go_enter Tryz.func34, Tryz.ntmps34
  go_wp2
  all_goals go_ret
  all_goals exact ⟨by first | rfl | (simp; done) | (simp; omega), rfl⟩
end Go.Proofs.YtblaphkaklocfaaGreatDoor
/- Contracts: references 06 (InGregorian), 07 (Fails). -/
namespace Go.Proofs.YtblaphkaklocfaaGreatDoor
open Go.ChangeShapes Go.WideShapes Go.ChangeAt Go.RowKit
set_option maxHeartbeats 400000

theorem InG_yes (y : Int) (w : World) (h : 1583 ≤ y) (h' : y ≤ 1000000000) :
    Calls Tryz.prog 18 #[.int .i64 y] w fun e w' => e = .returned (.bool true) ∧ w = w' := by
  go_enter Tryz.func18, Tryz.ntmps18
  go_wp2
  go_ret
  exact ⟨by first | rfl | (simp; done) | (simp; omega), rfl⟩

theorem InG_no (y : Int) (w : World) (h : y < 1583 ∨ 1000000000 < y) :
    Calls Tryz.prog 18 #[.int .i64 y] w fun e w' => e = .returned (.bool false) ∧ w = w' := by
  go_enter Tryz.func18, Tryz.ntmps18
  go_wp2
  all_goals go_ret
  all_goals exact ⟨by first | rfl | (simp; done) | (simp; omega), rfl⟩

theorem Fails_arg (k y : Int) (w : World) (h : k < 1 ∨ 2 < k) :
    Calls Tryz.prog 9 #[.int .i64 k, .int .i64 y] w fun e w' => e = .returned (.int .i64 3) ∧ w = w' := by
  go_enter Tryz.func9, Tryz.ntmps9
  rcases h with h | h
  all_goals
    go_wp2
    go_ret
    exact ⟨rfl, rfl⟩

/-- A calendar and a year that has an Easter in it. -/
def Fit (k y : Int) : Prop := (k = 1 ∧ 1 ≤ y ∨ k = 2 ∧ 1583 ≤ y) ∧ y ≤ 1000000000
/-- A calendar, and a year outside of its range. -/
def Off (k y : Int) : Prop := k = 1 ∧ (y < 1 ∨ 1000000000 < y) ∨ k = 2 ∧ (y < 1583 ∨ 1000000000 < y)
theorem three_ways (k y : Int) : (k < 1 ∨ 2 < k) ∨ Off k y ∨ Fit k y := by unfold Off Fit; omega

theorem Fails_off (k y : Int) (w : World) (h : Off k y) :
    Calls Tryz.prog 9 #[.int .i64 k, .int .i64 y] w fun e w' => e = .returned (.int .i64 1) ∧ w = w' := by
  unfold Off at h
  rcases h with ⟨rfl, h⟩ | ⟨rfl, h⟩
  · go_enter Tryz.func9, Tryz.ntmps9
    go_wp2_with (first | (go_at_call 34; refine (In_no _ _ (by omega)).mono ?_; rintro e w' ⟨rfl, rfl⟩))
    go_ret
    exact ⟨rfl, rfl⟩
  · go_enter Tryz.func9, Tryz.ntmps9
    go_wp2_with (first | (go_at_call 18; refine (InG_no _ _ (by omega)).mono ?_; rintro e w' ⟨rfl, rfl⟩))
    go_ret
    exact ⟨rfl, rfl⟩

theorem Fails_ok (k y : Int) (w : World) (h : Fit k y) :
    Calls Tryz.prog 9 #[.int .i64 k, .int .i64 y] w fun e w' => e = .returned (.int .i64 0) ∧ w = w' := by
  unfold Fit at h
  rcases h with ⟨⟨rfl, h⟩ | ⟨rfl, h⟩, h'⟩
  · go_enter Tryz.func9, Tryz.ntmps9
    go_wp2_with (first | (go_at_call 34; refine (In_yes _ _ (by omega) (by omega)).mono ?_; rintro e w' ⟨rfl, rfl⟩))
    go_ret
    exact ⟨rfl, rfl⟩
  · go_enter Tryz.func9, Tryz.ntmps9
    go_wp2_with (first | (go_at_call 18; refine (InG_yes _ _ (by omega) (by omega)).mono ?_; rintro e w' ⟨rfl, rfl⟩))
    go_ret
    exact ⟨rfl, rfl⟩
end Go.Proofs.YtblaphkaklocfaaGreatDoor

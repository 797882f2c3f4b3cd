/- Contracts: catalogue.Check at every catalogue; Find; Few; id. -/
import Derived.Test.YthhaicledbcnmaaCat1
set_option linter.unusedSimpArgs false
set_option linter.unusedVariables false
set_option linter.unusedSectionVars false
namespace Go.Proofs.Ythhaicledbcnmaa
open Go.ChangeShapes Go.WideShapes Go.ChangeAt Go.RowKit
set_option maxHeartbeats 2000000
set_option maxRecDepth 20000

theorem CCheck_any (f : Int) (o o' : Option Addr) (q q' : Nat) (L M : List Rec) (w : World) (hL : IsRecs w o L) (hM : IsRecs w o' M) (okL : ∀ r ∈ L, r.ok) (okM : ∀ r ∈ M, r.ok) :
    Calls Try.prog 14 #[.agg #[.int .i64 f, .slice o L.length q, .slice o' M.length q']] w fun e w' => e = .returned (.int .i64 (chV (catB f L M))) ∧ Kept w w' := by
  by_cases h1 : 0 ≤ f
  · by_cases h2 : f ≤ 9
    · by_cases h3 : 1 ≤ L.length
      · by_cases h4 : L.length ≤ 20
        · by_cases h5 : M.length ≤ 400
          · exact CCheck_good f o o' q q' L M w hL hM okL okM ⟨h1, h2⟩ ⟨h3, h4⟩ h5
          · have e : catB f L M = false := by unfold catB; rw [decide_eq_false_iff_not]; exact fun g => h5 g.2.2.1
            have g0 : ((L.length : Int) == 0) = false := beq_false_of_ne (by omega)
            rw [e, chV_f]
            clear e hL hM okL okM
            go_enter Try.func14, Try.ntmps14
            go_wp2
            go_ret
            exact ⟨rfl, (by repeat (first | with_reducible exact Kept.refl _ | with_reducible assumption | with_reducible refine Kept.drew ?_ | with_reducible refine Kept.drewN ?_ _ | with_reducible refine Kept.alloc ?_ _ | (with_reducible refine Kept.setCell ?_ (by first | exact Nat.le_refl _ | omega | (simp; done) | (simp; omega)) _) | (with_reducible refine Kept.trans ?_ (by with_reducible assumption))))⟩
        · have e : catB f L M = false := by unfold catB; rw [decide_eq_false_iff_not]; exact fun g => h4 g.2.1.2
          have g0 : ((L.length : Int) == 0) = false := beq_false_of_ne (by omega)
          rw [e, chV_f]
          clear e hL hM okL okM
          go_enter Try.func14, Try.ntmps14
          go_wp2
          go_ret
          exact ⟨rfl, (by repeat (first | with_reducible exact Kept.refl _ | with_reducible assumption | with_reducible refine Kept.drew ?_ | with_reducible refine Kept.drewN ?_ _ | with_reducible refine Kept.alloc ?_ _ | (with_reducible refine Kept.setCell ?_ (by first | exact Nat.le_refl _ | omega | (simp; done) | (simp; omega)) _) | (with_reducible refine Kept.trans ?_ (by with_reducible assumption))))⟩
      · have e : catB f L M = false := by unfold catB; rw [decide_eq_false_iff_not]; exact fun g => h3 g.2.1.1
        have g0 : L.length = 0 := by omega
        rw [e, chV_f]
        clear e hL hM okL okM
        rw [g0]
        go_enter Try.func14, Try.ntmps14
        go_wp2
        go_ret
        exact ⟨rfl, (by repeat (first | with_reducible exact Kept.refl _ | with_reducible assumption | with_reducible refine Kept.drew ?_ | with_reducible refine Kept.drewN ?_ _ | with_reducible refine Kept.alloc ?_ _ | (with_reducible refine Kept.setCell ?_ (by first | exact Nat.le_refl _ | omega | (simp; done) | (simp; omega)) _) | (with_reducible refine Kept.trans ?_ (by with_reducible assumption))))⟩
    · have e : catB f L M = false := by unfold catB; rw [decide_eq_false_iff_not]; exact fun g => h2 g.1.2
      rw [e, chV_f]
      clear e hL hM okL okM
      go_enter Try.func14, Try.ntmps14
      go_wp2
      go_ret
      exact ⟨rfl, (by repeat (first | with_reducible exact Kept.refl _ | with_reducible assumption | with_reducible refine Kept.drew ?_ | with_reducible refine Kept.drewN ?_ _ | with_reducible refine Kept.alloc ?_ _ | (with_reducible refine Kept.setCell ?_ (by first | exact Nat.le_refl _ | omega | (simp; done) | (simp; omega)) _) | (with_reducible refine Kept.trans ?_ (by with_reducible assumption))))⟩
  · have e : catB f L M = false := by unfold catB; rw [decide_eq_false_iff_not]; exact fun g => h1 g.1.1
    rw [e, chV_f]
    clear e hL hM okL okM
    go_enter Try.func14, Try.ntmps14
    go_wp2
    go_ret
    exact ⟨rfl, (by repeat (first | with_reducible exact Kept.refl _ | with_reducible assumption | with_reducible refine Kept.drew ?_ | with_reducible refine Kept.drewN ?_ _ | with_reducible refine Kept.alloc ?_ _ | (with_reducible refine Kept.setCell ?_ (by first | exact Nat.le_refl _ | omega | (simp; done) | (simp; omega)) _) | (with_reducible refine Kept.trans ?_ (by with_reducible assumption))))⟩
theorem CFew_any (f : Int) (o o' : Option Addr) (q q' : Nat) (L M : List Rec) (w : World) :
    Calls Try.prog 17 #[.agg #[.int .i64 f, .slice o L.length q, .slice o' M.length q']] w fun e w' => e = .returned (.bool (decide (L.length ≤ 8 ∧ M.length ≤ 30))) ∧ Kept w w' := by
  by_cases h1 : L.length ≤ 8
  · by_cases h2 : M.length ≤ 30
    · rw [decide_eq_true ⟨h1, h2⟩]
      have g : decide ((M.length : Int) ≤ 30) = true := decide_eq_true (by omega)
      go_enter Try.func17, Try.ntmps17
      go_wp2
      go_ret
      exact ⟨rfl, (by repeat (first | with_reducible exact Kept.refl _ | with_reducible assumption | with_reducible refine Kept.drew ?_ | with_reducible refine Kept.drewN ?_ _ | with_reducible refine Kept.alloc ?_ _ | (with_reducible refine Kept.setCell ?_ (by first | exact Nat.le_refl _ | omega | (simp; done) | (simp; omega)) _) | (with_reducible refine Kept.trans ?_ (by with_reducible assumption))))⟩
    · rw [decide_eq_false (by omega)]
      have g : decide ((M.length : Int) ≤ 30) = false := decide_eq_false (by omega)
      go_enter Try.func17, Try.ntmps17
      go_wp2
      go_ret
      exact ⟨rfl, (by repeat (first | with_reducible exact Kept.refl _ | with_reducible assumption | with_reducible refine Kept.drew ?_ | with_reducible refine Kept.drewN ?_ _ | with_reducible refine Kept.alloc ?_ _ | (with_reducible refine Kept.setCell ?_ (by first | exact Nat.le_refl _ | omega | (simp; done) | (simp; omega)) _) | (with_reducible refine Kept.trans ?_ (by with_reducible assumption))))⟩
  · rw [decide_eq_false (by omega)]
    have g : decide ((L.length : Int) ≤ 8) = false := decide_eq_false (by omega)
    go_enter Try.func17, Try.ntmps17
    go_wp2
    go_ret
    exact ⟨rfl, (by repeat (first | with_reducible exact Kept.refl _ | with_reducible assumption | with_reducible refine Kept.drew ?_ | with_reducible refine Kept.drewN ?_ _ | with_reducible refine Kept.alloc ?_ _ | (with_reducible refine Kept.setCell ?_ (by first | exact Nat.le_refl _ | omega | (simp; done) | (simp; omega)) _) | (with_reducible refine Kept.trans ?_ (by with_reducible assumption))))⟩
/-- The identifier at a place of a catalogue. -/
def idAt (L M : List Rec) (i : Nat) : ByteArray := if i < L.length then (L[i]!).s else (M[i - L.length]!).s
theorem CId_any (f : Int) (o o' : Option Addr) (q q' : Nat) (L M : List Rec) (i : Int) (w : World) (hL : IsRecs w o L) (hM : IsRecs w o' M) (hi : 0 ≤ i) (hi2 : i < L.length + M.length) (hs : L.length ≤ 1000 ∧ M.length ≤ 1000) :
    Calls Try.prog 18 #[.agg #[.int .i64 f, .slice o L.length q, .slice o' M.length q'], .int .i64 i] w fun e w' => e = .returned (.string (idAt L M i.toNat)) ∧ Kept w w' := by
  obtain ⟨n, rfl⟩ : ∃ n : Nat, i = n := ⟨i.toNat, by omega⟩
  obtain ⟨hs1, hs2⟩ := hs
  by_cases h : n < L.length
  · obtain ⟨b, off, rfl, c0, _⟩ := hL.cells n h
    have e : idAt L M (n : Int).toNat = (L[n]!).s := by unfold idAt; rw [Int.toNat_natCast, if_pos h]
    rw [e]
    have hlt := lt_cellL c0
    generalize (L[n]!).s = s at *
    clear hL hM e
    go_enter Try.func18, Try.ntmps18
    go_wp2
    go_ret
    exact ⟨rfl, (by repeat (first | with_reducible exact Kept.refl _ | with_reducible assumption | with_reducible refine Kept.drew ?_ | with_reducible refine Kept.drewN ?_ _ | with_reducible refine Kept.alloc ?_ _ | (with_reducible refine Kept.setCell ?_ (by first | exact Nat.le_refl _ | omega | (simp; done) | (simp; omega)) _) | (with_reducible refine Kept.trans ?_ (by with_reducible assumption))))⟩
  · obtain ⟨b, off, rfl, c0, _⟩ := hM.cells (n - L.length) (by omega)
    have e : idAt L M (n : Int).toNat = (M[n - L.length]!).s := by unfold idAt; rw [Int.toNat_natCast, if_neg h]
    rw [e]
    have hlt := lt_cellL c0
    generalize (M[n - L.length]!).s = s at *
    obtain ⟨p, rfl⟩ : ∃ p, n = L.length + p := ⟨n - L.length, by omega⟩
    rw [Nat.add_sub_cancel_left] at c0
    have hp : p < M.length := by omega
    clear hL hM e
    go_enter Try.func18, Try.ntmps18
    go_wp2
    go_ret
    exact ⟨rfl, (by repeat (first | with_reducible exact Kept.refl _ | with_reducible assumption | with_reducible refine Kept.drew ?_ | with_reducible refine Kept.drewN ?_ _ | with_reducible refine Kept.alloc ?_ _ | (with_reducible refine Kept.setCell ?_ (by first | exact Nat.le_refl _ | omega | (simp; done) | (simp; omega)) _) | (with_reducible refine Kept.trans ?_ (by with_reducible assumption))))⟩
/-- The first place that bears an identifier, or -1. -/
def fndN (s : ByteArray) : Nat → List Rec → Int
  | _, [] => -1
  | n, r :: t => if r.s = s then (n : Int) else fndN s (n + 1) t
def fndB (s : ByteArray) (M : List Rec) : Int := fndN s 0 M
end Go.Proofs.Ythhaicledbcnmaa

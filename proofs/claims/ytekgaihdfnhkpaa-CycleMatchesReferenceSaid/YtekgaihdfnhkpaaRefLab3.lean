/- Contract: reference 08: Numbers. -/
import Derived.Test.YtekgaihdfnhkpaaRefLab2
import Derived.Outline
set_option linter.unusedSimpArgs false
set_option linter.unusedVariables false
set_option linter.unusedSectionVars false
namespace Go.Proofs.Ytekgaihdfnhkpaa
open Go.ChangeShapes Go.WideShapes Go.ChangeAt Go.RowKit
set_option maxHeartbeats 800000

/-- The slice .slice o L.length _ holds the numbers L. -/
def IsInts (w : World) (o : Option Addr) (L : List Int) : Prop := ∀ j, j < L.length → ∃ b, o = some ⟨b, 0, none⟩ ∧ w.cell? ⟨b, j, none⟩ = some (.int .i64 L[j]!)
theorem isInts_nil (w : World) (o : Option Addr) : IsInts w o [] := fun j h => absurd h (Nat.not_lt_zero _)
theorem IsInts.kept {w w' : World} {o : Option Addr} {L : List Int} (h : IsInts w o L) (k : Kept w w') : IsInts w' o L := fun j hj => by
  obtain ⟨b, e, hc⟩ := h j hj
  exact ⟨b, e, (k.cell _ _ (lt_cellL hc)).trans hc⟩
theorem isInts_lies {w : World} {b : Nat} {L : List Int} (h : Lies w b L) : IsInts w (some ⟨b, 0, none⟩) L := fun j hj => ⟨b, rfl, h j hj⟩
theorem Numbers_of (o o' : Option Addr) (c c' : Nat) (A B : List Int) (w : World) (hA : IsInts w o A) (hB : IsInts w o' B) (hn : A.length ≤ 1000) (hm : B.length ≤ 1000) :
    Calls Try.prog 20 #[.slice o A.length c, .slice o' B.length c'] w fun e w' => e = .returned (.bool (decide (A = B))) ∧ Kept w w' := by
  by_cases hl : A.length = B.length
  · have HE := Lib.hid hl
    go_enter Try.func20, Try.ntmps20
    rw [← hl]
    clear hl
    go_wp2
    go_loopw [5] (fun i wr => ∃ k : Nat, k ≤ A.length ∧ i = .int .i64 k ∧ Hid (∀ j, j < k → A[j]! = B[j]!) ∧ Kept w wr) (fun i _ => (A.length - intOf i).toNat)
    case atStart => exact ⟨0, by omega, rfl, fun j h => absurd h (Nat.not_lt_zero _), Kept.refl _⟩
    case round =>
      obtain ⟨k, hk, rfl, G, hkw⟩ := hrel
      by_cases hlt : k < A.length
      · obtain ⟨b, rfl, hc⟩ := (hA.kept hkw) k hlt
        obtain ⟨b', rfl, hc'⟩ := (hB.kept hkw) k (by have := HE.out; omega)
        have hd : A[k]! ≠ B[k]! → decide (A = B) = false := fun h => by
          simp only [decide_eq_false_iff_not]
          rintro rfl
          exact h rfl
        have hi : (k : Int) < (A.length : Int) := by omega
        have HH : Hid (A[k]! = B[k]! → ∀ j, j < k + 1 → A[j]! = B[j]!) := (show _ → _ from fun e j hj => by
          by_cases hjk : j = k
          · subst hjk; exact e
          · exact G.out j (by omega))
        generalize hx : A[k]! = x at *
        generalize hy : B[k]! = y at *
        have HD := Lib.hid hd
        clear hd hx hy
        by_cases e : x = y
        · have HK := Lib.hid (HH.out e)
          subst e
          go_wp2
          go_region
          go_wp2
          go_roundw
          case rel => exact ⟨k + 1, by omega, by go_num, HK, (by repeat (first | with_reducible exact Kept.refl _ | with_reducible assumption | with_reducible refine Kept.drew ?_ | with_reducible refine Kept.drewN ?_ _ | with_reducible refine Kept.alloc ?_ _ | (with_reducible refine Kept.setCell ?_ (by first | exact Nat.le_refl _ | omega | (simp; done) | (simp; omega)) _) | (with_reducible refine Kept.trans ?_ (by with_reducible assumption))))⟩
          case measure => simp [intOf]; omega
        · have hz := HD.out e
          go_wp2
          go_region
          go_wp2
          go_ret
          exact ⟨by first | rfl | (rw [hz]; rfl), (by repeat (first | with_reducible exact Kept.refl _ | with_reducible assumption | with_reducible refine Kept.drew ?_ | with_reducible refine Kept.drewN ?_ _ | with_reducible refine Kept.alloc ?_ _ | (with_reducible refine Kept.setCell ?_ (by first | exact Nat.le_refl _ | omega | (simp; done) | (simp; omega)) _) | (with_reducible refine Kept.trans ?_ (by with_reducible assumption))))⟩
      · obtain rfl : k = A.length := by omega
        have hz : decide (A = B) = true := by
          simp only [decide_eq_true_eq]
          apply List.ext_getElem HE.out
          intro i h1 h2
          have := G.out i h1
          simpa [h1, h2] using this
        go_wp2
        go_ret
        exact ⟨by first | rfl | (rw [hz]; rfl), (by repeat (first | with_reducible exact Kept.refl _ | with_reducible assumption | with_reducible refine Kept.drew ?_ | with_reducible refine Kept.drewN ?_ _ | with_reducible refine Kept.alloc ?_ _ | (with_reducible refine Kept.setCell ?_ (by first | exact Nat.le_refl _ | omega | (simp; done) | (simp; omega)) _) | (with_reducible refine Kept.trans ?_ (by with_reducible assumption))))⟩
  · have hz : decide (A = B) = false := by
      simp only [decide_eq_false_iff_not]
      rintro rfl
      exact hl rfl
    have hl' : ¬ (A.length : Int) = (B.length : Int) := by omega
    rw [hz]
    go_enter Try.func20, Try.ntmps20
    go_wp2
    go_ret
    exact ⟨rfl, Kept.refl _⟩
end Go.Proofs.Ytekgaihdfnhkpaa

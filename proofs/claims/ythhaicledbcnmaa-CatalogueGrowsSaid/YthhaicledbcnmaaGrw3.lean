/- Plain: the catalogue with one feast more, in memory. -/
import Derived.Test.YthhaicledbcnmaaGrw1
set_option linter.unusedSimpArgs false
set_option linter.unusedVariables false
set_option linter.unusedSectionVars false
namespace Go.Proofs.Ythhaicledbcnmaa
open Go.ChangeShapes Go.WideShapes Go.ChangeAt Go.RowKit
set_option maxHeartbeats 2000000
set_option maxRecDepth 20000

theorem one_more {wr w4 w5 : World} {x0 x1 x2 : Value} {B : Obj} {o1 o2 oD : Option Addr} {c1 c2 cD : Nat} {L M : List Rec} {r : Rec} (hk4 : Kept wr w4)
    (R1 : w4.ownsRow wr.heap.size 29 9 (.slice o1 L.length c1) L.length (recs L)) (R2 : w4.ownsRow wr.heap.size 31 9 (.slice o2 M.length c2) M.length (recs M))
    (hgrow : ((w4.alloc (.cells #[x0, x1, x2] 25)).alloc B).grownBy w5 (Value.slice o2 M.length c2).ownBlock)
    (hown : w5.ownsRow wr.heap.size 31 9 (.slice oD (M.length + 1) cD) (M.length + 1) (recs M ++ r.vals)) (u : Value) :
    (w5.cell? ⟨w4.heap.size, 0, none⟩ = some x0 ∧ w5.cell? ⟨w4.heap.size, 1, none⟩ = some x1 ∧ w5.cell? ⟨w4.heap.size, 2, none⟩ = some x2 ∧ w5.frozen? ⟨w4.heap.size, 2, none⟩ = false) ∧
    ((w5.setCell ⟨w4.heap.size, 2, none⟩ u).cell? ⟨w4.heap.size, 0, none⟩ = some x0 ∧ (w5.setCell ⟨w4.heap.size, 2, none⟩ u).cell? ⟨w4.heap.size, 1, none⟩ = some x1 ∧ (w5.setCell ⟨w4.heap.size, 2, none⟩ u).cell? ⟨w4.heap.size, 2, none⟩ = some u ∧ w4.heap.size < (w5.setCell ⟨w4.heap.size, 2, none⟩ u).heap.size) ∧
    Kept wr (w5.setCell ⟨w4.heap.size, 2, none⟩ u) ∧ IsRecs (w5.setCell ⟨w4.heap.size, 2, none⟩ u) o1 L ∧ IsRecs (w5.setCell ⟨w4.heap.size, 2, none⟩ u) oD (M ++ [r]) := by
  have hne : some w4.heap.size ≠ (Value.slice o2 M.length c2).ownBlock := fun e => by have := (R2.lt _ e.symm).2; omega
  have hkA : Kept w4 ((w4.alloc (.cells #[x0, x1, x2] 25)).alloc B) := ((Kept.refl w4).alloc _).alloc _
  have hbd : ((w4.alloc (.cells #[x0, x1, x2] 25)).alloc B).heap[w4.heap.size]? = some (.cells #[x0, x1, x2] 25 (0, 0)) := heap_alloc2_old _ _ _
  have hlt : w4.heap.size < ((w4.alloc (.cells #[x0, x1, x2] 25)).alloc B).heap.size := by simp; omega
  have hb5 : w5.heap[w4.heap.size]? = some (.cells #[x0, x1, x2] 25 (0, 0)) := (hgrow.block _ hlt hne).trans hbd
  have hc : ∀ i, w5.cell? ⟨w4.heap.size, i, none⟩ = #[x0, x1, x2][i]? := fun i => cell_of_row w5 w4.heap.size i _ _ _ hb5
  have e0 : w5.cell? ⟨w4.heap.size, 0, none⟩ = some x0 := (hc 0).trans rfl
  have e1 : w5.cell? ⟨w4.heap.size, 1, none⟩ = some x1 := (hc 1).trans rfl
  have e2 : w5.cell? ⟨w4.heap.size, 2, none⟩ = some x2 := (hc 2).trans rfl
  have z2 : w5.frozen? ⟨w4.heap.size, 2, none⟩ = false := (hgrow.frozen_far ⟨w4.heap.size, 2, none⟩ hlt hne).trans (by rw [World.frozen?_of_block (w := w4.alloc (.cells #[x0, x1, x2] 25)) (((Kept.refl (w4.alloc _)).alloc B).block _ (by simp))]; simp)
  have hk5 : Kept wr w5 := Below.grown ((hk4.alloc _).alloc _) hgrow ((hk4.alloc _).alloc _).size (fun k e => (R2.lt k e).1)
  have r1 : w5.ownsRow wr.heap.size 29 9 (.slice o1 L.length c1) L.length (recs L) := (owns_kept' R1 hkA).kept hgrow (owns_apart (owns_kept' R1 hkA) (owns_kept' R2 hkA) (by decide))
  refine ⟨⟨e0, e1, e2, z2⟩, ⟨(World.cell?_setCell_far2 (by decide)).trans e0, (World.cell?_setCell_far2 (by decide)).trans e1, World.cell?_setCell_same' _ _ _ (by rw [e2]; rfl), ?_⟩, hk5.setCell (hk4.size) _, ?_, ?_⟩
  · rw [World.size_setCell]
    exact Nat.lt_of_lt_of_le hlt hgrow.size
  · exact recs_of_owns' (ownsRow_setCell_other r1 (owns_not_block r1 hb5 (by decide)) u)
  · have h2 := ownsRow_setCell_other (a := ⟨w4.heap.size, 2, none⟩) hown (owns_not_block hown hb5 (by decide)) u
    rw [← recs_snoc] at h2
    have h3 : (M ++ [r]).length = M.length + 1 := by simp
    rw [← h3] at h2
    exact recs_of_owns' h2
theorem recs_app (A B : List Rec) : recs (A ++ B) = recs A ++ recs B := by simp [recs]
theorem IsRecs.take {w : World} {o : Option Addr} {M : List Rec} (h : IsRecs w o M) (k : Nat) : IsRecs w o (M.take k) := fun j hj => by
  have hj2 : j < k ∧ j < M.length := by rw [List.length_take] at hj; omega
  obtain ⟨b, off, e, hc⟩ := h j hj2.2
  refine ⟨b, off, e, fun i u hu => hc i u ?_⟩
  have e1 : (M.take k)[j]! = M[j]! := by rw [List.getElem!_eq_getElem?_getD, List.getElem!_eq_getElem?_getD, List.getElem?_take, if_pos hj2.1]
  rwa [e1] at hu
theorem IsRecs.drop {w : World} {b off : Nat} {M : List Rec} (h : IsRecs w (some ⟨b, off, none⟩) M) (k : Nat) : IsRecs w (some ⟨b, off + k * 9, none⟩) (M.drop k) := fun j hj => by
  have hj2 : k + j < M.length := by rw [List.length_drop] at hj; omega
  obtain ⟨b2, off2, e, hc⟩ := h (k + j) hj2
  injection e with e
  injection e with eb eo _
  subst eb eo
  refine ⟨_, _, rfl, fun i u hu => ?_⟩
  have e1 : (M.drop k)[j]! = M[k + j]! := by rw [List.getElem!_eq_getElem?_getD, List.getElem!_eq_getElem?_getD, List.getElem?_drop]
  rw [e1] at hu
  have := hc i u hu
  rw [← this]
  congr 2
  rw [Nat.add_mul]
  omega
theorem owns_cap {w : World} {b n s c m : Nat} {e : TypeId} {a : Addr} {xs : List Value} (h : w.ownsRow b e s (.slice (some a) m c) n xs) (hn : m = n) : m ≤ c := by
  obtain ⟨h1, ⟨e1, _⟩ | ⟨g, cap, cur, e1, h4, h5, h6, _⟩⟩ := h
  · cases e1
  · injection e1 with _ _ e3
    omega
end Go.Proofs.Ythhaicledbcnmaa

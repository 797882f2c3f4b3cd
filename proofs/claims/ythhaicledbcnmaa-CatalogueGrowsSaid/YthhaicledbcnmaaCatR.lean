/- Contract: the reference of catalogue.Check. -/
import Derived.Test.YthhaicledbcnmaaCat2
import Derived.Maps.AppendAt
import Derived.Test.YthhaicledbcnmaaFnd
set_option linter.unusedSimpArgs false
set_option linter.unusedVariables false
set_option linter.unusedSectionVars false
namespace Go.Proofs.Ythhaicledbcnmaa
open Go.ChangeShapes Go.WideShapes Go.ChangeAt Go.RowKit
set_option maxHeartbeats 2000000
set_option maxRecDepth 20000

theorem info_str : (Try.prog.info? 9).map (fun i => (i.zero, i.size, i.bytes)) = some (some (.string ⟨#[]⟩), 1, 16) := by kernel_rfl
def strs (l : List ByteArray) : List Value := l.map Value.string
theorem strs_snoc (l : List ByteArray) (s : ByteArray) : strs (l ++ [s]) = strs l ++ [.string s] := by simp [strs]
/-- The slice .slice o S.length _ holds the strings S. -/
def IsStrs (w : World) (o : Option Addr) (S : List ByteArray) : Prop := ∀ j, j < S.length → ∃ b, o = some ⟨b, 0, none⟩ ∧ w.cell? ⟨b, j, none⟩ = some (.string (S.getD j ByteArray.empty))
theorem IsStrs.kept {w w' : World} {o : Option Addr} {S : List ByteArray} (h : IsStrs w o S) (k : Kept w w') : IsStrs w' o S := fun j hj => by
  obtain ⟨b, e, hc⟩ := h j hj
  exact ⟨b, e, (k.cell _ _ (lt_cellL hc)).trans hc⟩
theorem strs_of_owns {w : World} {b : Nat} {e : TypeId} {v : Value} {S : List ByteArray} (h : w.ownsRow b e 1 v S.length (strs S)) : ∃ o c, v = .slice o S.length c ∧ IsStrs w o S := by
  have hc := h
  obtain ⟨h1, ⟨rfl, h3⟩ | ⟨g, cap, cur, rfl, h4, h5, h6⟩⟩ := h
  · exact ⟨none, 0, by rw [h3], fun j hj => by omega⟩
  · refine ⟨some ⟨g, 0, none⟩, cap, rfl, fun j hj => ?_⟩
    have a1 := hc.cells (g := g) rfl j (.string (S.getD j ByteArray.empty)) (by simp [strs, hj])
    rw [Addr.add_lit, Nat.zero_add] at a1
    exact ⟨g, rfl, a1⟩
theorem owns_kept' {w w' : World} {b n s : Nat} {e : TypeId} {v : Value} {xs : List Value} (h : w.ownsRow b e s v n xs) (k : Kept w w') : w'.ownsRow b e s v n xs := by
  obtain ⟨h1, h2 | ⟨g, cap, cur, h3, h4, h5, h6⟩⟩ := h
  · exact ⟨h1, .inl h2⟩
  · exact ⟨h1, .inr ⟨g, cap, cur, h3, h4, (k.block g (lt_of_block h5)).trans h5, h6⟩⟩
theorem owns_form' {w : World} {b n s : Nat} {e : TypeId} {v : Value} {xs : List Value} (h : w.ownsRow b e s v n xs) : ∃ o c, v = .slice o n c := by
  obtain ⟨_, ⟨rfl, rfl⟩ | ⟨g, cap, cur, rfl, _⟩⟩ := h
  · exact ⟨none, 0, rfl⟩
  · exact ⟨some ⟨g, 0, none⟩, cap, rfl⟩
theorem cell_str_new (w : World) (x : Value) (t : TypeId) : ∀ j u, [x][j]? = some u → (w.alloc (.cells #[x] t)).cell? ((⟨w.heap.size, 0, none⟩ : Addr).add j) = some u := by
  intro j u hj
  match j, hj with
  | 0, hj => simp at hj; subst hj; simp [Addr.add]
theorem nodup_of (S : List ByteArray) (h : ∀ a, a < S.length → ∀ k, k < a → S.getD a ByteArray.empty ≠ S.getD k ByteArray.empty) : S.Nodup := by
  rw [List.nodup_iff_pairwise_ne, List.pairwise_iff_getElem]
  intro i j hi hj hij
  have := h j hj i hij
  simp only [List.getD_eq_getElem?_getD, List.getElem?_eq_getElem hi, List.getElem?_eq_getElem hj, Option.getD_some] at this
  exact fun e => this e.symm
theorem not_nodup (S : List ByteArray) (a k : Nat) (ha : a < S.length) (hk : k < a) (he : S.getD a ByteArray.empty = S.getD k ByteArray.empty) : ¬ S.Nodup := by
  intro h
  rw [List.nodup_iff_pairwise_ne, List.pairwise_iff_getElem] at h
  have := h k a (by omega) ha hk
  simp only [List.getD_eq_getElem?_getD, List.getElem?_eq_getElem ha, List.getElem?_eq_getElem (show k < S.length by omega), Option.getD_some] at he
  exact this he.symm
end Go.Proofs.Ythhaicledbcnmaa

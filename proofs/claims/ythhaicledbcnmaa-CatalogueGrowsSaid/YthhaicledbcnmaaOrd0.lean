/- Plain: records that are appended one by one; a catalogue turned round. -/
import Derived.Test.YthhaicledbcnmaaCatR2
import Derived.Deep.AppendLies
import Derived.Deep.RegionLaw
import Derived.OneCell
set_option linter.unusedSimpArgs false
set_option linter.unusedVariables false
set_option linter.unusedSectionVars false
namespace Go.Proofs.Ythhaicledbcnmaa
open Go.ChangeShapes Go.WideShapes Go.ChangeAt Go.RowKit
set_option maxHeartbeats 2000000
set_option maxRecDepth 20000

theorem info_seaz : (Try.prog.info? 29).map (fun i => (i.zero, i.size, i.bytes)) = some (some (.agg #[.string ⟨#[]⟩, .int .i64 0, .int .i64 0, .int .i64 0, .int .i64 0, .int .i64 0, .int .i64 0, .int .i64 0, .int .i64 0]), 9, 80) := by kernel_rfl
theorem info_feaz : (Try.prog.info? 31).map (fun i => (i.zero, i.size, i.bytes)) = some (some (.agg #[.string ⟨#[]⟩, .int .i64 0, .int .i64 0, .int .i64 0, .int .i64 0, .int .i64 0, .int .i64 0, .int .i64 0, .int .i64 0]), 9, 80) := by kernel_rfl
def recs (L : List Rec) : List Value := L.flatMap Rec.vals
theorem recs_snoc (L : List Rec) (r : Rec) : recs (L ++ [r]) = recs L ++ r.vals := by simp [recs]
theorem recs_cons (L : List Rec) (r : Rec) : recs (r :: L) = r.vals ++ recs L := by simp [recs]
theorem vals_len (r : Rec) : r.vals.length = 9 := rfl
theorem recs_at (L : List Rec) : ∀ j, j < L.length → ∀ i u, (L[j]!).vals[i]? = some u → (recs L)[j * 9 + i]? = some u := by
  induction L with
  | nil => intro j hj; exact absurd hj (Nat.not_lt_zero _)
  | cons r t ih =>
    intro j hj i u hu
    rw [recs_cons]
    cases j with
    | zero =>
      have hi : i < r.vals.length := (List.getElem?_eq_some_iff.1 hu).1
      rw [Nat.zero_mul, Nat.zero_add, List.getElem?_append_left hi]
      exact hu
    | succ p =>
      have hp : p < t.length := by simpa using hj
      have := ih p hp i u hu
      rw [List.getElem?_append_right (by rw [vals_len]; omega), vals_len, show (p + 1) * 9 + i - 9 = p * 9 + i from by omega]
      exact this
theorem recs_of_owns {w : World} {b : Nat} {e : TypeId} {v : Value} {L : List Rec} (h : w.ownsRow b e 9 v L.length (recs L)) : ∃ o c, v = .slice o L.length c ∧ IsRecs w o L := by
  have hc := h
  obtain ⟨h1, ⟨rfl, h3⟩ | ⟨g, cap, cur, rfl, h4, h5, h6⟩⟩ := h
  · exact ⟨none, 0, by rw [h3], fun j hj => by omega⟩
  · refine ⟨some ⟨g, 0, none⟩, cap, rfl, fun j hj => ⟨g, 0, rfl, fun i u hu => ?_⟩⟩
    have a1 := hc.cells (g := g) rfl (j * 9 + i) u (recs_at L j hj i u hu)
    rw [Addr.add_lit] at a1
    rwa [← Nat.add_assoc] at a1
theorem recs_of_owns' {w : World} {b n c : Nat} {e : TypeId} {o : Option Addr} {L : List Rec} (h : w.ownsRow b e 9 (.slice o n c) L.length (recs L)) : IsRecs w o L := by
  obtain ⟨o2, c2, e2, h2⟩ := recs_of_owns h
  injection e2 with e2 _ _
  rw [e2]
  exact h2
theorem drop_rev (L : List Rec) (p : Nat) (hp : p < L.length) : (L.drop p).reverse = (L.drop (p + 1)).reverse ++ [L[p]!] := by
  rw [List.drop_eq_getElem_cons hp, List.reverse_cons]
  have e : L[p]! = L[p] := by rw [List.getElem!_eq_getElem?_getD, List.getElem?_eq_getElem hp]; rfl
  rw [e]
theorem catB_rev (f : Int) (L M : List Rec) : catB f L.reverse M.reverse = catB f L M := by
  have key : catP f L.reverse M.reverse ↔ catP f L M := by
    unfold catP
    have hn : (ids L.reverse ++ ids M.reverse).Nodup ↔ (ids L ++ ids M).Nodup := by
      have hp : (ids L.reverse ++ ids M.reverse).Perm (ids L ++ ids M) := by
        unfold ids
        rw [List.map_reverse, List.map_reverse]
        exact (List.reverse_perm _).append (List.reverse_perm _)
      exact hp.nodup_iff
    rw [hn]
    simp
  unfold catB
  by_cases h : catP f L M
  · rw [decide_eq_true h, decide_eq_true (key.2 h)]
  · rw [decide_eq_false h, decide_eq_false (fun g => h (key.1 g))]
/-- What is known of the new catalogue, in block bd, while its slices grow. -/
structure Grows (W wr : World) (bd : Nat) (v0 v1 v2 : Value) : Prop where
  grown : W.grownBy wr (some bd)
  lt : bd < W.heap.size
  c0 : wr.cell? ⟨bd, 0, none⟩ = some v0
  c1 : wr.cell? ⟨bd, 1, none⟩ = some v1
  c2 : wr.cell? ⟨bd, 2, none⟩ = some v2
  z0 : wr.frozen? ⟨bd, 0, none⟩ = false
  z1 : wr.frozen? ⟨bd, 1, none⟩ = false
  z2 : wr.frozen? ⟨bd, 2, none⟩ = false
theorem Grows.ltr {W wr : World} {bd : Nat} {v0 v1 v2 : Value} (h : Grows W wr bd v0 v1 v2) : bd < wr.heap.size := Nat.lt_of_lt_of_le h.lt h.grown.size
theorem Grows.of_same {W wr w1 : World} {bd : Nat} {v0 v1 v2 : Value} (h : Grows W wr bd v0 v1 v2) {row : Option Nat} (g : wr.grownBy w1 row) (hr : ∀ k, row = some k → W.heap.size ≤ k) : Grows W w1 bd v0 v1 v2 := by
  have hlt := h.lt
  have hltr := h.ltr
  have hne : some bd ≠ row := fun e => by have := hr bd e.symm; omega
  have hc : ∀ i, w1.cell? ⟨bd, i, none⟩ = wr.cell? ⟨bd, i, none⟩ := fun i => g.cell_far _ hltr hne
  have hz : ∀ i, w1.frozen? ⟨bd, i, none⟩ = wr.frozen? ⟨bd, i, none⟩ := fun i => g.frozen_far _ hltr hne
  refine ⟨⟨g.os.trans h.grown.os, g.tape.trans h.grown.tape, g.output.trans h.grown.output, Nat.le_trans h.grown.size g.size, fun k hk hkb => ?_⟩, hlt, (hc 0).trans h.c0, (hc 1).trans h.c1, (hc 2).trans h.c2, (hz 0).trans h.z0, (hz 1).trans h.z1, (hz 2).trans h.z2⟩
  have hk2 : some k ≠ row := fun e => by have := hr k e.symm; omega
  exact (g.block k (Nat.lt_of_lt_of_le hk h.grown.size) hk2).trans (h.grown.block k hk hkb)
theorem Grows.drew {W wr : World} {bd : Nat} {v0 v1 v2 : Value} (h : Grows W wr bd v0 v1 v2) : Grows W wr.drew bd v0 v1 v2 := ⟨⟨h.grown.os, h.grown.tape, h.grown.output, h.grown.size, h.grown.block⟩, h.lt, h.c0, h.c1, h.c2, h.z0, h.z1, h.z2⟩
theorem Grows.alloc {W wr : World} {bd : Nat} {v0 v1 v2 : Value} (h : Grows W wr bd v0 v1 v2) (o : Obj) : Grows W (wr.alloc o) bd v0 v1 v2 := h.of_same (World.grownBy_alloc wr o none) (fun k e => by cases e)
theorem World.cell?_setCell_far2 {w : World} {b i j : Nat} {u : Value} (h : i ≠ j) : (w.setCell ⟨b, i, none⟩ u).cell? ⟨b, j, none⟩ = w.cell? ⟨b, j, none⟩ := by
  apply World.cell?_setCell_other
  intro e
  injection e with _ e _
  exact h e
theorem Grows.set1 {W wr : World} {bd : Nat} {v0 v1 v2 : Value} (h : Grows W wr bd v0 v1 v2) (u : Value) : Grows W (wr.setCell ⟨bd, 1, none⟩ u) bd v0 u v2 := by
  refine ⟨⟨?_, ?_, ?_, ?_, fun k hk hkb => ?_⟩, h.lt, ?_, ?_, ?_, ?_, ?_, ?_⟩
  · exact h.grown.os
  · exact h.grown.tape
  · exact h.grown.output
  · rw [World.size_setCell]; exact h.grown.size
  · rw [Below.heap_setCell _ _ _ _ (fun e => hkb (by rw [e]))]; exact h.grown.block k hk hkb
  · exact (World.cell?_setCell_far2 (by decide)).trans h.c0
  · exact World.cell?_setCell_same' _ _ _ (by rw [h.c1]; rfl)
  · exact (World.cell?_setCell_far2 (by decide)).trans h.c2
  · rw [World.frozen?_setCell]; exact h.z0
  · rw [World.frozen?_setCell]; exact h.z1
  · rw [World.frozen?_setCell]; exact h.z2
theorem Grows.set2 {W wr : World} {bd : Nat} {v0 v1 v2 : Value} (h : Grows W wr bd v0 v1 v2) (u : Value) : Grows W (wr.setCell ⟨bd, 2, none⟩ u) bd v0 v1 u := by
  refine ⟨⟨?_, ?_, ?_, ?_, fun k hk hkb => ?_⟩, h.lt, ?_, ?_, ?_, ?_, ?_, ?_⟩
  · exact h.grown.os
  · exact h.grown.tape
  · exact h.grown.output
  · rw [World.size_setCell]; exact h.grown.size
  · rw [Below.heap_setCell _ _ _ _ (fun e => hkb (by rw [e]))]; exact h.grown.block k hk hkb
  · exact (World.cell?_setCell_far2 (by decide)).trans h.c0
  · exact (World.cell?_setCell_far2 (by decide)).trans h.c1
  · exact World.cell?_setCell_same' _ _ _ (by rw [h.c2]; rfl)
  · rw [World.frozen?_setCell]; exact h.z0
  · rw [World.frozen?_setCell]; exact h.z1
  · rw [World.frozen?_setCell]; exact h.z2
theorem Grows.kept {w W wr : World} {bd : Nat} {v0 v1 v2 : Value} (h : Grows W wr bd v0 v1 v2) (k : Kept w W) (hb : w.heap.size ≤ bd) : Kept w wr :=
  Below.grown k h.grown k.size (fun q hq => by injection hq with hq; omega)
theorem Grows.start {W : World} {bd : Nat} {v0 v1 v2 : Value} (lt : bd < W.heap.size) (c0 : W.cell? ⟨bd, 0, none⟩ = some v0) (c1 : W.cell? ⟨bd, 1, none⟩ = some v1) (c2 : W.cell? ⟨bd, 2, none⟩ = some v2) (z0 : W.frozen? ⟨bd, 0, none⟩ = false) (z1 : W.frozen? ⟨bd, 1, none⟩ = false) (z2 : W.frozen? ⟨bd, 2, none⟩ = false) : Grows W W bd v0 v1 v2 :=
  ⟨⟨rfl, rfl, rfl, Nat.le_refl _, fun _ _ _ => rfl⟩, lt, c0, c1, c2, z0, z1, z2⟩
/-- A row of the call's own stays, where the new catalogue lies below it. -/
theorem owns_grows {W wr : World} {bd : Nat} {v0 v1 v2 v : Value} {b n : Nat} {e : TypeId} {xs : List Value} (h : Grows W wr bd v0 v1 v2) (ho : W.ownsRow b e 9 v n xs) (hb : bd < b) : wr.ownsRow b e 9 v n xs := by
  refine ho.kept h.grown ?_
  cases hv : v.ownBlock with
  | none => exact .inl rfl
  | some q => exact .inr (fun e => by injection e with e; have := (ho.lt q hv).1; omega)
end Go.Proofs.Ythhaicledbcnmaa

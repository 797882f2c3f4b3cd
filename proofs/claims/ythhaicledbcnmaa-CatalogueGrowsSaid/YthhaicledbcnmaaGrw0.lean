/- Copy of a catalogue; an append that changes nothing. -/
import Derived.Test.YthhaicledbcnmaaOrd0
import Derived.Deep.RegionLawGrows
set_option linter.unusedSimpArgs false
set_option linter.unusedVariables false
set_option linter.unusedSectionVars false
namespace Go.Proofs.Ythhaicledbcnmaa
open Go.ChangeShapes Go.WideShapes Go.ChangeAt Go.RowKit
set_option maxHeartbeats 4000000
set_option maxRecDepth 20000

theorem run_append_zero {P : Program} (w : World) (t ty e : TypeId) (i : TypeInfo) (ht : P.underlying t = some (.slice e)) (hi : P.info? e = some i)
    (b off n cap : Nat) (hn : n ≤ cap) (xo : Option Addr) (c : Nat) :
    (Builtin.append_ #[t, t] ty #[.slice (some ⟨b, off, none⟩) n cap, .slice xo 0 c]).run P w = .ok (.slice (some ⟨b, off, none⟩) n cap) w := by
  cases xo with
  | some a =>
    have h := run_append_room_cells (P := P) w t ty e i ht hi b off n cap a 0 c [] (by simp) (by simp) (by simp) (by simpa using hn) (by simp) (by simp)
    simp only [Nat.add_zero] at h
    exact h
  | none =>
    have hst := run_storeCells_cells (P := P) b (off + n * i.size) [] 0 w (by simp) (by simp) (by simp)
    simp only [Nat.add_zero] at hst
    simp [Builtin.append_, run_underlying ht, sizeOf, typeInfo, hi, Builtin.lenOf, hn, Builtin.firstCells, Addr.add_lit, hst]
    rfl

/-- append of a slice of no elements, as a step of a region that draws. -/
theorem step_append_zero {P : Program} {ops : Array Oper} {o : Oper} {a : Act} {w : World} {K : Act → World → Prop} {Q : Exit → Act → World → Prop} {E : Prop}
    (hg : o.guard = none) (s x : Operand) (t : TypeId) (hop : o.op = Op.call { callee := Callee.builtin Builtin.append, args := #[s, x], argTypes := #[t, t] })
    (e : TypeId) (i : TypeInfo) (h1 : P.underlying t = some (.slice e)) (h2 : P.info? e = some i)
    (b off n cap : Nat) (hs : a.eval s = .slice (some ⟨b, off, none⟩) n cap) (hn : n ≤ cap) (xo : Option Addr) (c : Nat) (hx : a.eval x = .slice xo 0 c)
    (hK : K (a.put o.dst (.slice (some ⟨b, off, none⟩) n cap)) w) :
    if Region.wanted o (yielded ops a.tmps) = true then Oper.wp P o a w K Q else E := by
  have hw : Region.wanted o (yielded ops a.tmps) = true := by simp [Region.wanted, hg]
  rw [if_pos hw]
  have hrun := run_append_zero (P := P) w t o.type e i h1 h2 b off n cap hn xo c
  unfold Oper.wp
  simp [execOp, hop, resolve, invoke, builtin, hs, hx, hrun, Result.andThen]
  exact hK

/-- The same, where the row is the call's own. -/
theorem step_append_empty {P : Program} {ops : Array Oper} {o : Oper} {a : Act} {w : World} {K : Act → World → Prop} {Q : Exit → Act → World → Prop} {E : Prop}
    (hg : o.guard = none) (s x : Operand) (t : TypeId) (hop : o.op = Op.call { callee := Callee.builtin Builtin.append, args := #[s, x], argTypes := #[t, t] })
    (e : TypeId) (i : TypeInfo) (h1 : P.underlying t = some (.slice e)) (h2 : P.info? e = some i)
    (b : Nat) (hs : a.eval s = .slice (some ⟨b, 0, none⟩) 0 0) (xo : Option Addr) (c : Nat) (hx : a.eval x = .slice xo 0 c) (base : Nat) (hb : base ≤ b) (hh : w.heap[b]? = some (.cells #[] e (0, 0)))
    (hK : ∀ v' w', w'.ownsRow base e 9 v' 0 [] → w.grownBy w' none → K (a.put o.dst v') w') :
    if Region.wanted o (yielded ops a.tmps) = true then Oper.wp P o a w K Q else E :=
  step_append_zero hg s x t hop e i h1 h2 b 0 0 0 hs (Nat.le_refl _) xo c hx (hK _ _ ⟨rfl, .inr ⟨b, 0, #[], rfl, hb, hh, Nat.le_refl _, Nat.zero_le _, rfl, rfl⟩⟩ ⟨rfl, rfl, rfl, Nat.le_refl _, fun _ _ _ => rfl⟩)
theorem recs_cells {w : World} {b off : Nat} {L : List Rec} (h : IsRecs w (some ⟨b, off, none⟩) L) : ∀ j u, (recs L)[j]? = some u → w.cell? ((⟨b, off, none⟩ : Addr).add j) = some u := by
  intro j u hu
  rw [Addr.add_lit]
  have hlen : ∀ L : List Rec, (recs L).length = L.length * 9 := fun L => by
    induction L with
    | nil => rfl
    | cons r t ih => rw [recs_cons, List.length_append, ih, vals_len, List.length_cons]; omega
  have hj : j < L.length * 9 := by have := (List.getElem?_eq_some_iff.1 hu).1; rwa [hlen] at this
  obtain ⟨b2, off2, e2, hc⟩ := h (j / 9) (by omega)
  injection e2 with e2
  injection e2 with eb eo _
  subst eb eo
  have hi : j % 9 < (L[j / 9]!).vals.length := by rw [vals_len]; omega
  have hv : (L[j / 9]!).vals[j % 9]? = some ((L[j / 9]!).vals[j % 9]) := List.getElem?_eq_getElem hi
  have h1 := recs_at L (j / 9) (by omega) (j % 9) _ hv
  have hjj : j / 9 * 9 + j % 9 = j := by omega
  rw [hjj, hu] at h1
  have h2 := hc (j % 9) _ hv
  rw [← h1] at h2
  rw [← h2]
  congr 2
  omega
theorem recs_len (L : List Rec) : (recs L).length = L.length * 9 := by
  induction L with
  | nil => rfl
  | cons r t ih => rw [recs_cons, List.length_append, ih, vals_len, List.length_cons]; omega
theorem recs_one (L : List Rec) : ∀ u ∈ recs L, u.oneCell' = true := by
  intro u hu
  unfold recs at hu
  rw [List.mem_flatMap] at hu
  obtain ⟨r, _, h⟩ := hu
  simp only [Rec.vals, List.mem_cons, List.not_mem_nil, or_false] at h
  rcases h with h | h | h | h | h | h | h | h | h <;> (subst h; simp [Value.oneCell'])
end Go.Proofs.Ythhaicledbcnmaa

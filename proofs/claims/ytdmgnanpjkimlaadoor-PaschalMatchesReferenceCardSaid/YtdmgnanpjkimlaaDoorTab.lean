/- Contract: package paschal: Table. -/
import Derived.Test.YtdmgnanpjkimlaaDoorPas
import Derived.Test.YtdmgnanpjkimlaaDoorTabP
import Derived.Maps.AppendAt
import Derived.Outline
set_option linter.unusedSimpArgs false
set_option linter.unusedVariables false
set_option linter.unusedSectionVars false
namespace Go.Proofs.YtdmgnanpjkimlaaDoor
open Go.ChangeShapes Go.WideShapes Go.ChangeAt Go.RowKit
set_option maxHeartbeats 1000000
set_option maxRecDepth 20000

theorem info_date : (Tryd.prog.info? 23).map (fun i => (i.zero, i.size, i.bytes)) = some (some (.agg #[.int .i64 0, .int .i64 0, .int .i64 0]), 3, 24) := by kernel_rfl
def cellsD (y : Int) (ps : List (Int × Int)) : List Value := ps.flatMap fun p => [.int .i64 y, .int .i64 p.1, .int .i64 p.2]
theorem cellsD_snoc (y : Int) (ps : List (Int × Int)) (x : Int × Int) : cellsD y (ps ++ [x]) = cellsD y ps ++ [.int .i64 y, .int .i64 x.1, .int .i64 x.2] := by simp [cellsD]
theorem cellsD_len (y : Int) (L : List (Int × Int)) : (cellsD y L).length = 3 * L.length := by
  induction L with
  | nil => rfl
  | cons x t ih =>
    have : cellsD y (x :: t) = [.int .i64 y, .int .i64 x.1, .int .i64 x.2] ++ cellsD y t := by simp [cellsD]
    rw [this, List.length_append, ih, List.length_cons]
    simp
    omega
theorem cellsD_at (y : Int) (L : List (Int × Int)) (j : Nat) (h : j < L.length) : (cellsD y L)[3 * j]? = some (.int .i64 y) ∧ (cellsD y L)[3 * j + 1]? = some (.int .i64 (L[j]!).1) ∧ (cellsD y L)[3 * j + 2]? = some (.int .i64 (L[j]!).2) := by
  induction L generalizing j with
  | nil => simp at h
  | cons x t ih =>
    have hx : cellsD y (x :: t) = .int .i64 y :: .int .i64 x.1 :: .int .i64 x.2 :: cellsD y t := by simp [cellsD]
    rw [hx]
    cases j with
    | zero => simp
    | succ j =>
      have := ih j (by simpa using h)
      rw [show 3 * (j + 1) = 3 * j + 1 + 1 + 1 from by omega]
      simpa using this
/-- The slice .slice o L.length _ holds the dates L of the year y. -/
def IsDates (w : World) (o : Option Addr) (y : Int) (L : List (Int × Int)) : Prop := ∀ j, j < L.length → ∃ b, o = some ⟨b, 0, none⟩ ∧ w.cell? ⟨b, 3 * j, none⟩ = some (.int .i64 y) ∧ w.cell? ⟨b, 3 * j + 1, none⟩ = some (.int .i64 (L[j]!).1) ∧ w.cell? ⟨b, 3 * j + 2, none⟩ = some (.int .i64 (L[j]!).2)
theorem IsDates.kept {w w' : World} {o : Option Addr} {y : Int} {L : List (Int × Int)} (h : IsDates w o y L) (k : Kept w w') : IsDates w' o y L := fun j hj => by
  obtain ⟨b, e, h1, h2, h3⟩ := h j hj
  exact ⟨b, e, (k.cell _ _ (lt_cellL h1)).trans h1, (k.cell _ _ (lt_cellL h2)).trans h2, (k.cell _ _ (lt_cellL h3)).trans h3⟩
theorem dates_of_owns {w : World} {b : Nat} {e : TypeId} {v : Value} {y : Int} {L : List (Int × Int)} (h : w.ownsRow b e 3 v L.length (cellsD y L)) :
    ∃ o c, v = .slice o L.length c ∧ IsDates w o y L := by
  have hc := h
  obtain ⟨h1, ⟨rfl, h3⟩ | ⟨g, cap, cur, rfl, h4, h5, h6⟩⟩ := h
  · exact ⟨none, 0, by rw [h3], fun j hj => by omega⟩
  · refine ⟨some ⟨g, 0, none⟩, cap, rfl, fun j hj => ?_⟩
    obtain ⟨p1, p2, p3⟩ := cellsD_at y L j hj
    have a1 := hc.cells (g := g) rfl (3 * j) _ p1
    have a2 := hc.cells (g := g) rfl (3 * j + 1) _ p2
    have a3 := hc.cells (g := g) rfl (3 * j + 2) _ p3
    rw [Addr.add_lit, Nat.zero_add] at a1 a2 a3
    exact ⟨g, rfl, a1, a2, a3⟩
theorem cell_three_new (w : World) (x y z : Value) (t : TypeId) : ∀ j u, [x, y, z][j]? = some u → (w.alloc (.cells #[x, y, z] t)).cell? ((⟨w.heap.size, 0, none⟩ : Addr).add j) = some u := by
  intro j u hj
  match j, hj with
  | 0, hj => simp at hj; subst hj; simp [Addr.add]
  | 1, hj => simp at hj; subst hj; simp [Addr.add]
  | 2, hj => simp at hj; subst hj; simp [Addr.add]
theorem owns_base {w : World} {b b' n s : Nat} {e : TypeId} {v : Value} {xs : List Value} (h : w.ownsRow b e s v n xs) (hb : b' ≤ b) : w.ownsRow b' e s v n xs := by
  obtain ⟨h1, h2 | ⟨g, cap, cur, h3, h4, h5, h6⟩⟩ := h
  · exact ⟨h1, .inl h2⟩
  · exact ⟨h1, .inr ⟨g, cap, cur, h3, Nat.le_trans hb h4, h5, h6⟩⟩
theorem Table_ok (k y : Int) (w : World) (hL : LTab w) (hf : Fit k y) :
    Calls Tryd.prog 11 #[.int .i64 k, .int .i64 y] w fun e w' => ∃ v, e = .returned (.tuple #[v, .int .i64 0]) ∧ w'.ownsRow w.heap.size 23 3 v (bearsL (labN k y) dayList).length (cellsD y (bearsL (labN k y) dayList)) ∧ Kept w w' := by
  have hc := fit_sm k y hf
  have e0 : flE k y = 0 := by
    rcases fl_cases k y with ⟨_, e⟩ | ⟨g, _⟩ | ⟨g, _⟩
    · exact e
    · unfold Fit at hf; unfold Off at g; omega
    · unfold Fit at hf; omega
  have KL := Lib.hid (fun w => ELabel_any k y w hc)
  rw [e0, if_pos rfl] at KL
  have KD := Lib.hid (fun w' (q : Kept w w') => Days_pairs (labN k y) w' (hL.kept q))
  have hlen := bearsL_len (labN k y)
  obtain ⟨i0, hi, hz0, hz1, hz2⟩ := info_parts info_date
  clear hL hf hc e0
  generalize labN k y = l at *
  generalize bearsL l dayList = L at *
  generalize hB : w.heap.size = B at *
  go_enter Tryd.func11, Tryd.ntmps11
  go_wp2_with fail
  (go_at_call 12; refine (KL.out _).mono ?_; rintro e w1 ⟨rfl, hk1⟩)
  go_wp2_with fail
  go_at_call 22
  refine (KD.out _ (by repeat (first | with_reducible exact Kept.refl _ | with_reducible assumption | with_reducible refine Kept.drew ?_ | with_reducible refine Kept.drewN ?_ _ | with_reducible refine Kept.alloc ?_ _ | (with_reducible refine Kept.setCell ?_ (by first | exact Nat.le_refl _ | omega | (simp; done) | (simp; omega)) _) | (with_reducible refine Kept.trans ?_ (by with_reducible assumption))))).mono ?_
  rintro e w2 ⟨o, c, rfl, hp, hk2⟩
  have K2 := hk1.trans hk2
  have KP := Lib.hid hp
  clear hp
  go_wp2_with fail
  have HLT : Hid (∀ j, j < L.length → L.take (j + 1) = L.take j ++ [L[j]!]) := (show ∀ j, _ → _ from fun j hj => by
    rw [List.take_add_one, List.getElem?_eq_getElem hj, List.getElem!_eq_getElem?_getD]
    simp [hj])
  have HLN : Hid (L.take L.length = L) := List.take_length
  obtain ⟨B2, hB2⟩ : ∃ B2, B2 = w2.heap.size := ⟨_, rfl⟩
  have hBB : B ≤ B2 := by have := K2.size; omega
  go_loopw [8, 23] (fun v i wr => ∃ j : Nat, j ≤ L.length ∧ i = .int .i64 j ∧ wr.ownsRow B2 23 3 v j (cellsD y (L.take j)) ∧ Kept w wr ∧ Kept w2 wr) (fun _ i _ => (L.length - intOf i).toNat)
  case atStart => exact ⟨0, by omega, rfl, World.ownsRow_nil _ _ _ _, K2, Kept.refl _⟩
  case round =>
    obtain ⟨j, hj, rfl, hown, hkw, hk2w⟩ := hrel
    have hBs : B2 ≤ wr.heap.size := by have := hk2w.size; omega
    by_cases hlt : j < L.length
    · obtain ⟨g, rfl, hc1, hc2⟩ := (KP.out.kept hk2w) j hlt
      have HT := Lib.hid (HLT.out j hlt)
      have hi2 : (j : Int) < (L.length : Int) := by omega
      generalize L[j]! = p at *
      obtain ⟨p1, p2⟩ := p
      dsimp only at hc1 hc2
      rw [Nat.mul_comm] at hc1 hc2
      have hown1 := (hown.alloc (.cells #[.int .i64 p1, .int .i64 p2] 50)).alloc (.cells #[.int .i64 y, .int .i64 p1, .int .i64 p2] 23)
      go_wp2_with (at_builtin; refine wpList_append_own _ rfl _ _ 35 rfl B2 23 i0 (.agg #[.int .i64 0, .int .i64 0, .int .i64 0]) 3 24 Tryd.underlying35 hi hz0 hz1 hz2 rfl (by decide) _ _ _ rfl hown1 ⟨wr.heap.size + 1, 0, none⟩ 1 1 [.int .i64 y, .int .i64 p1, .int .i64 p2] rfl rfl ?c1 ?c2 ?c3 ?c4 ?c5 ?_)
      case c1 =>
        have := cell_three_new (wr.alloc (.cells #[.int .i64 p1, .int .i64 p2] 50)) (.int .i64 y) (.int .i64 p1) (.int .i64 p2) 23
        rw [World.size_alloc] at this
        exact this
      case c2 => simp [Value.oneCell']
      case c3 => unfold maxLen; omega
      case c4 => omega
      case c5 => simp; omega
      intro v' w3 hown' hgrow _
      have hk3 : Kept w w3 := Below.grown ((hkw.alloc (.cells #[.int .i64 p1, .int .i64 p2] 50)).alloc (.cells #[.int .i64 y, .int .i64 p1, .int .i64 p2] 23)) hgrow (by simp; omega) (fun q hq => by have := (hown1.lt q hq).1; omega)
      have hk4 : Kept w2 w3 := Below.grown ((hk2w.alloc (.cells #[.int .i64 p1, .int .i64 p2] 50)).alloc (.cells #[.int .i64 y, .int .i64 p1, .int .i64 p2] 23)) hgrow (by simp; omega) (fun q hq => by have := (hown1.lt q hq).1; omega)
      clear hgrow hown hown1
      go_wp2
      go_roundw
      case rel => exact ⟨j + 1, by omega, by go_num, by rw [HT.out, cellsD_snoc]; simpa [hB2] using hown', hk3, hk4⟩
      case measure => simp [intOf]; omega
    · obtain rfl : j = L.length := by omega
      rw [HLN.out] at hown
      go_wp2
      go_ret2
      exact ⟨_, rfl, owns_base hown hBB, hkw⟩
theorem Table_any (k y : Int) (w : World) (hT : RTab w) (hc : Sm k) :
    Calls Tryd.prog 11 #[.int .i64 k, .int .i64 y] w fun e w' => ∃ o c, e = .returned (.tuple #[.slice o (if flE k y = 0 then (bearsL (labN k y) dayList).length else 0) c, .int .i64 (flE k y)]) ∧ (flE k y = 0 → IsDates w' o y (bearsL (labN k y) dayList)) ∧ Kept w w' := by
  by_cases g : flE k y = 0
  · have hf : Fit k y := by
      rcases fl_cases k y with ⟨h, _⟩ | ⟨_, h⟩ | ⟨_, h⟩
      · exact h
      · omega
      · omega
    rw [g, if_pos rfl]
    refine (Table_ok k y w hT.2 hf).mono ?_
    rintro e w' ⟨v, rfl, ho, hk⟩
    obtain ⟨o, c, rfl, hd⟩ := dates_of_owns ho
    exact ⟨o, c, rfl, fun _ => hd, hk⟩
  · have KL := Lib.hid (fun w => ELabel_any k y w hc)
    have hx : 0 ≤ flE k y ∧ flE k y ≤ 3 := by rcases fl_cases k y with ⟨_, g⟩ | ⟨_, g⟩ | ⟨_, g⟩ <;> omega
    rw [if_neg g] at KL ⊢
    generalize flE k y = x at *
    go_enter Tryd.func11, Tryd.ntmps11
    go_wp2_with fail
    (go_at_call 12; refine (KL.out _).mono ?_; rintro e w1 ⟨rfl, hk1⟩)
    go_wp2
    go_ret2
    exact ⟨none, 0, rfl, fun h => absurd h g, (by repeat (first | with_reducible exact Kept.refl _ | with_reducible assumption | with_reducible refine Kept.drew ?_ | with_reducible refine Kept.drewN ?_ _ | with_reducible refine Kept.alloc ?_ _ | (with_reducible refine Kept.setCell ?_ (by first | exact Nat.le_refl _ | omega | (simp; done) | (simp; omega)) _) | (with_reducible refine Kept.trans ?_ (by with_reducible assumption))))⟩
end Go.Proofs.YtdmgnanpjkimlaaDoor

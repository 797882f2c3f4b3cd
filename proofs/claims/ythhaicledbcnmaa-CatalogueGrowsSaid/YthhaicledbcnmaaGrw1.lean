/- Contract: the reference's Copy. -/
import Derived.Test.YthhaicledbcnmaaGrw0
set_option linter.unusedSimpArgs false
set_option linter.unusedVariables false
set_option linter.unusedSectionVars false
namespace Go.Proofs.Ythhaicledbcnmaa
open Go.ChangeShapes Go.WideShapes Go.ChangeAt Go.RowKit
set_option maxHeartbeats 8000000
set_option maxRecDepth 20000

theorem kept_of_grown {w w' : World} (g : w.grownBy w' none) : Kept w w' := ⟨g.os, g.tape, g.output, g.size, fun k hk => g.block k hk (by simp)⟩
theorem owns_base {w : World} {b b2 n s : Nat} {e : TypeId} {v : Value} {xs : List Value} (h : w.ownsRow b e s v n xs) (hb : b2 ≤ b) : w.ownsRow b2 e s v n xs := by
  obtain ⟨h1, h2 | ⟨g, cap, cur, h3, h4, h5, h6⟩⟩ := h
  · exact ⟨h1, .inl h2⟩
  · exact ⟨h1, .inr ⟨g, cap, cur, h3, Nat.le_trans hb h4, h5, h6⟩⟩
theorem owns_not_block {w : World} {b n s k : Nat} {e t : TypeId} {v : Value} {xs : List Value} {cs : Array Value} {fr : Nat × Nat} (h : w.ownsRow b e s v n xs) (hk : w.heap[k]? = some (.cells cs t fr)) (hne : t ≠ e) : v.ownBlock ≠ some k := by
  obtain ⟨h1, ⟨rfl, _⟩ | ⟨g, cap, cur, rfl, h4, h5, h6⟩⟩ := h
  · intro e; cases e
  · intro e2
    have e3 : g = k := by injection e2
    subst e3
    rw [hk] at h5
    injection h5 with h5
    injection h5 with _ h5 _
    exact hne h5
theorem owns_apart {w : World} {b n s b' n' s' : Nat} {e e' : TypeId} {v v' : Value} {xs xs' : List Value} (h : w.ownsRow b e s v n xs) (h' : w.ownsRow b' e' s' v' n' xs') (hne : e ≠ e') : v.ownBlock = none ∨ v.ownBlock ≠ v'.ownBlock := by
  obtain ⟨h1, ⟨rfl, _⟩ | ⟨g, cap, cur, rfl, h4, h5, h6⟩⟩ := h
  · exact .inl rfl
  · exact .inr (fun e2 => owns_not_block h' h5 hne e2.symm)
theorem Copy_some (f : Int) (b off b' off' : Nat) (q q' : Nat) (L M : List Rec) (w : World) (hL : IsRecs w (some ⟨b, off, none⟩) L) (hM : IsRecs w (some ⟨b', off', none⟩) M) (h8 : L.length ≤ 8) (h30 : M.length ≤ 30) (h1 : 0 < L.length) (h2 : 0 < M.length) :
    Calls Try.prog 20 #[.agg #[.int .i64 f, .slice (some ⟨b, off, none⟩) L.length q, .slice (some ⟨b', off', none⟩) M.length q']] w fun e w' => Kept w w' ∧ ∃ o1 c1 o2 c2, e = .returned (.agg #[.int .i64 f, .slice o1 L.length c1, .slice o2 M.length c2]) ∧
      w'.ownsRow w.heap.size 29 9 (.slice o1 L.length c1) L.length (recs L) ∧ w'.ownsRow w.heap.size 31 9 (.slice o2 M.length c2) M.length (recs M) := by
  obtain ⟨iS, hiS, hzS0, hzS1, hzS2⟩ := info_parts info_seaz
  obtain ⟨iF, hiF, hzF0, hzF1, hzF2⟩ := info_parts info_feaz
  go_enter Try.func20, Try.ntmps20
  go_wp2_with fail
  obtain ⟨Wc, hWc⟩ : ∃ x, x = w.alloc (.cells #[.int .i64 f, .slice (some ⟨b, off, none⟩) L.length q, .slice (some ⟨b', off', none⟩) M.length q'] 25) := ⟨_, rfl⟩
  rw [← hWc]
  obtain ⟨W, hW⟩ : ∃ x, x = Wc.alloc (.cells #[.int .i64 0, .slice none 0 0, .slice none 0 0] 25) := ⟨_, rfl⟩
  rw [← hW]
  have hkc : Kept w Wc := by rw [hWc]; exact (Kept.refl w).alloc _
  have hzc : Wc.heap.size = w.heap.size + 1 := by rw [hWc]; simp
  have hkW : Kept Wc W := by rw [hW]; exact (Kept.refl Wc).alloc _
  have hzW : W.heap.size = w.heap.size + 2 := by rw [hW]; simp [hzc]
  have x0 : Wc.cell? ⟨w.heap.size, 0, none⟩ = some (.int .i64 f) := by rw [hWc, cell_here]; rfl
  have x1 : Wc.cell? ⟨w.heap.size, 1, none⟩ = some (.slice (some ⟨b, off, none⟩) L.length q) := by rw [hWc, cell_here]; rfl
  have x2 : Wc.cell? ⟨w.heap.size, 2, none⟩ = some (.slice (some ⟨b', off', none⟩) M.length q') := by rw [hWc, cell_here]; rfl
  have y0 : W.cell? ⟨w.heap.size + 1, 0, none⟩ = some (.int .i64 0) := by rw [hW, ← hzc, cell_here]; rfl
  have y1 : W.cell? ⟨w.heap.size + 1, 1, none⟩ = some (.slice none 0 0) := by rw [hW, ← hzc, cell_here]; rfl
  have y2 : W.cell? ⟨w.heap.size + 1, 2, none⟩ = some (.slice none 0 0) := by rw [hW, ← hzc, cell_here]; rfl
  have g0 : W.frozen? ⟨w.heap.size + 1, 0, none⟩ = false := by rw [hW, ← hzc]; simp
  have g1 : W.frozen? ⟨w.heap.size + 1, 1, none⟩ = false := by rw [hW, ← hzc]; simp
  have g2 : W.frozen? ⟨w.heap.size + 1, 2, none⟩ = false := by rw [hW, ← hzc]; simp
  have hlc : w.heap.size < Wc.heap.size := by omega
  have hlW : w.heap.size + 1 < W.heap.size := by omega
  clear hWc hW
  go_region_held3 (fun w' => Kept Wc w' ∧ (∀ b o, b < Wc.heap.size → w'.cell? ⟨b, o, none⟩ = Wc.cell? ⟨b, o, none⟩)) (exact held_of (by (repeat (first | assumption | exact Kept.refl _ | apply Kept.drew | apply Kept.alloc | (refine Kept.setCell ?_ (by dsimp only; omega) _))))) (first | (refine step_append_grows (by rfl) _ _ _ (by rfl) 29 iS _ 9 80 Try.underlying22 hiS hzS0 hzS1 hzS2 rfl (by omega) _ 0 0 [] (by rfl) (fun _ => ⟨rfl, rfl⟩) (by rfl) (fun _ _ j u hu => by simp at hu) ⟨b, off, none⟩ L.length q (recs L) (by rfl) (recs_len L) (recs_cells (hL.kept (Kept.trans hkc (by (repeat (first | assumption | exact Kept.refl _ | apply Kept.drew | apply Kept.alloc | (refine Kept.setCell ?_ (by dsimp only; omega) _))))))) (recs_one L) (by omega) (by unfold maxLen; omega) (by omega) ?_; intro vA wA hownA hgrowA; have hkA := kept_of_grown hgrowA; have hcA : Kept Wc wA := Kept.trans (by (repeat (first | assumption | exact Kept.refl _ | apply Kept.drew | apply Kept.alloc | (refine Kept.setCell ?_ (by dsimp only; omega) _)))) hkA; have hWA : Kept W wA := Kept.trans (by (repeat (first | assumption | exact Kept.refl _ | apply Kept.drew | apply Kept.alloc | (refine Kept.setCell ?_ (by dsimp only; omega) _)))) hkA; rw [Nat.zero_add, List.nil_append] at hownA; obtain ⟨oA, cA, rfl⟩ := owns_form' hownA; have rA := owns_base hownA (Kept.size (show Kept W _ from by (repeat (first | assumption | exact Kept.refl _ | apply Kept.drew | apply Kept.alloc | (refine Kept.setCell ?_ (by dsimp only; omega) _))))); clear hgrowA hownA) | (refine step_append_grows (by rfl) _ _ _ (by rfl) 31 iF _ 9 80 Try.underlying23 hiF hzF0 hzF1 hzF2 rfl (by omega) _ 0 0 [] (by rfl) (fun _ => ⟨rfl, rfl⟩) (by rfl) (fun _ _ j u hu => by simp at hu) ⟨b', off', none⟩ M.length q' (recs M) (by rfl) (recs_len M) (recs_cells (hM.kept (Kept.trans hkc (by (repeat (first | assumption | exact Kept.refl _ | apply Kept.drew | apply Kept.alloc | (refine Kept.setCell ?_ (by dsimp only; omega) _))))))) (recs_one M) (by omega) (by unfold maxLen; omega) (by omega) ?_; intro vB wB hownB hgrowB; have hkB := kept_of_grown hgrowB; have hcB : Kept Wc wB := Kept.trans (by (repeat (first | assumption | exact Kept.refl _ | apply Kept.drew | apply Kept.alloc | (refine Kept.setCell ?_ (by dsimp only; omega) _)))) hkB; have hWB : Kept W wB := Kept.trans (by (repeat (first | assumption | exact Kept.refl _ | apply Kept.drew | apply Kept.alloc | (refine Kept.setCell ?_ (by dsimp only; omega) _)))) hkB; rw [Nat.zero_add, List.nil_append] at hownB; obtain ⟨oB, cB, rfl⟩ := owns_form' hownB; have rB := owns_base hownB (Kept.size (show Kept W _ from by (repeat (first | assumption | exact Kept.refl _ | apply Kept.drew | apply Kept.alloc | (refine Kept.setCell ?_ (by dsimp only; omega) _))))); have rA2 := owns_kept' rA (Kept.trans (by (repeat (first | assumption | exact Kept.refl _ | apply Kept.drew | apply Kept.alloc | (refine Kept.setCell ?_ (by dsimp only; omega) _)))) hkB); clear hgrowB hownB; have z0 := (hWB.cell (w.heap.size + 1) 0 hlW).trans y0; have z1 := (hWB.cell (w.heap.size + 1) 1 hlW).trans y1; have z2 := (hWB.cell (w.heap.size + 1) 2 hlW).trans y2; have f0 := (hWB.frozen (w.heap.size + 1) 0 hlW).trans g0; have f1 := (hWB.frozen (w.heap.size + 1) 1 hlW).trans g1; have f2 := (hWB.frozen (w.heap.size + 1) 2 hlW).trans g2))
  all_goals go_wp2
  all_goals (
    have q0 : (((wB.setCell ⟨w.heap.size + 1, 0, none⟩ (.int .i64 f)).setCell ⟨w.heap.size + 1, 1, none⟩ (.slice oA L.length cA)).setCell ⟨w.heap.size + 1, 2, none⟩ (.slice oB M.length cB)).cell? ⟨w.heap.size + 1, 0, none⟩ = some (.int .i64 f) := (World.cell?_setCell_far2 (by decide)).trans ((World.cell?_setCell_far2 (by decide)).trans (World.cell?_setCell_same' _ _ _ (by rw [z0]; rfl)))
    have q1 : (((wB.setCell ⟨w.heap.size + 1, 0, none⟩ (.int .i64 f)).setCell ⟨w.heap.size + 1, 1, none⟩ (.slice oA L.length cA)).setCell ⟨w.heap.size + 1, 2, none⟩ (.slice oB M.length cB)).cell? ⟨w.heap.size + 1, 1, none⟩ = some (.slice oA L.length cA) := (World.cell?_setCell_far2 (by decide)).trans (World.cell?_setCell_same' _ _ _ (by rw [World.cell?_setCell_far2 (by decide), z1]; rfl))
    have q2 : (((wB.setCell ⟨w.heap.size + 1, 0, none⟩ (.int .i64 f)).setCell ⟨w.heap.size + 1, 1, none⟩ (.slice oA L.length cA)).setCell ⟨w.heap.size + 1, 2, none⟩ (.slice oB M.length cB)).cell? ⟨w.heap.size + 1, 2, none⟩ = some (.slice oB M.length cB) := World.cell?_setCell_same' _ _ _ (by rw [World.cell?_setCell_far2 (by decide), World.cell?_setCell_far2 (by decide), z2]; rfl)
    refine bodyPost_ret (v := .agg #[.int .i64 f, .slice oA L.length cA, .slice oB M.length cB]) (by simp [results, Try.results20, go_sem, q0, q1, q2]) rfl ?_)
  all_goals exact ⟨Kept.setCell (Kept.setCell (Kept.setCell (Kept.trans hkc hcB) (by dsimp only; omega) _) (by dsimp only; omega) _) (by dsimp only; omega) _, _, _, _, _, rfl, owns_base (ownsRow_setCell_below (ownsRow_setCell_below (ownsRow_setCell_below rA2 (by dsimp only; omega) _) (by dsimp only; omega) _) (by dsimp only; omega) _) (by omega), owns_base (ownsRow_setCell_below (ownsRow_setCell_below (ownsRow_setCell_below rB (by dsimp only; omega) _) (by dsimp only; omega) _) (by dsimp only; omega) _) (by omega)⟩
theorem Copy_none (f : Int) (b off : Nat) (o' : Option Addr) (q q' : Nat) (L : List Rec) (w : World) (hL : IsRecs w (some ⟨b, off, none⟩) L) (h8 : L.length ≤ 8) (h1 : 0 < L.length) :
    Calls Try.prog 20 #[.agg #[.int .i64 f, .slice (some ⟨b, off, none⟩) L.length q, .slice o' 0 q']] w fun e w' => Kept w w' ∧ ∃ o1 c1 o2 c2, e = .returned (.agg #[.int .i64 f, .slice o1 L.length c1, .slice o2 0 c2]) ∧
      w'.ownsRow w.heap.size 29 9 (.slice o1 L.length c1) L.length (recs L) ∧ w'.ownsRow w.heap.size 31 9 (.slice o2 0 c2) 0 [] := by
  obtain ⟨iS, hiS, hzS0, hzS1, hzS2⟩ := info_parts info_seaz
  obtain ⟨iF, hiF, hzF0, hzF1, hzF2⟩ := info_parts info_feaz
  go_enter Try.func20, Try.ntmps20
  go_wp2_with fail
  obtain ⟨Wc, hWc⟩ : ∃ x, x = w.alloc (.cells #[.int .i64 f, .slice (some ⟨b, off, none⟩) L.length q, .slice o' 0 q'] 25) := ⟨_, rfl⟩
  rw [← hWc]
  obtain ⟨W, hW⟩ : ∃ x, x = Wc.alloc (.cells #[.int .i64 0, .slice none 0 0, .slice none 0 0] 25) := ⟨_, rfl⟩
  rw [← hW]
  have hkc : Kept w Wc := by rw [hWc]; exact (Kept.refl w).alloc _
  have hzc : Wc.heap.size = w.heap.size + 1 := by rw [hWc]; simp
  have hkW : Kept Wc W := by rw [hW]; exact (Kept.refl Wc).alloc _
  have hzW : W.heap.size = w.heap.size + 2 := by rw [hW]; simp [hzc]
  have x0 : Wc.cell? ⟨w.heap.size, 0, none⟩ = some (.int .i64 f) := by rw [hWc, cell_here]; rfl
  have x1 : Wc.cell? ⟨w.heap.size, 1, none⟩ = some (.slice (some ⟨b, off, none⟩) L.length q) := by rw [hWc, cell_here]; rfl
  have x2 : Wc.cell? ⟨w.heap.size, 2, none⟩ = some (.slice o' 0 q') := by rw [hWc, cell_here]; rfl
  have y0 : W.cell? ⟨w.heap.size + 1, 0, none⟩ = some (.int .i64 0) := by rw [hW, ← hzc, cell_here]; rfl
  have y1 : W.cell? ⟨w.heap.size + 1, 1, none⟩ = some (.slice none 0 0) := by rw [hW, ← hzc, cell_here]; rfl
  have y2 : W.cell? ⟨w.heap.size + 1, 2, none⟩ = some (.slice none 0 0) := by rw [hW, ← hzc, cell_here]; rfl
  have g0 : W.frozen? ⟨w.heap.size + 1, 0, none⟩ = false := by rw [hW, ← hzc]; simp
  have g1 : W.frozen? ⟨w.heap.size + 1, 1, none⟩ = false := by rw [hW, ← hzc]; simp
  have g2 : W.frozen? ⟨w.heap.size + 1, 2, none⟩ = false := by rw [hW, ← hzc]; simp
  have hlc : w.heap.size < Wc.heap.size := by omega
  have hlW : w.heap.size + 1 < W.heap.size := by omega
  have hzW2 : w.heap.size + 2 ≤ W.heap.size := by omega
  clear hWc hW hzW
  go_region_held3 (fun w' => Kept Wc w' ∧ (∀ b o, b < Wc.heap.size → w'.cell? ⟨b, o, none⟩ = Wc.cell? ⟨b, o, none⟩)) (exact held_of (by (repeat (first | assumption | exact Kept.refl _ | apply Kept.drew | apply Kept.alloc | (refine Kept.setCell ?_ (by dsimp only; omega) _))))) (first | (refine step_append_grows (by rfl) _ _ _ (by rfl) 29 iS _ 9 80 Try.underlying22 hiS hzS0 hzS1 hzS2 rfl (by omega) _ 0 0 [] (by rfl) (fun _ => ⟨rfl, rfl⟩) (by rfl) (fun _ _ j u hu => by simp at hu) ⟨b, off, none⟩ L.length q (recs L) (by rfl) (recs_len L) (recs_cells (hL.kept (Kept.trans hkc (by (repeat (first | assumption | exact Kept.refl _ | apply Kept.drew | apply Kept.alloc | (refine Kept.setCell ?_ (by dsimp only; omega) _))))))) (recs_one L) (by omega) (by unfold maxLen; omega) (by omega) ?_; intro vA wA hownA hgrowA; have hkA := kept_of_grown hgrowA; have hcA : Kept Wc wA := Kept.trans (by (repeat (first | assumption | exact Kept.refl _ | apply Kept.drew | apply Kept.alloc | (refine Kept.setCell ?_ (by dsimp only; omega) _)))) hkA; have hWA : Kept W wA := Kept.trans (by (repeat (first | assumption | exact Kept.refl _ | apply Kept.drew | apply Kept.alloc | (refine Kept.setCell ?_ (by dsimp only; omega) _)))) hkA; rw [Nat.zero_add, List.nil_append] at hownA; obtain ⟨oA, cA, rfl⟩ := owns_form' hownA; have rA := owns_base hownA (Kept.size (show Kept W _ from by (repeat (first | assumption | exact Kept.refl _ | apply Kept.drew | apply Kept.alloc | (refine Kept.setCell ?_ (by dsimp only; omega) _))))); clear hgrowA hownA) | (refine step_append_empty (by rfl) _ _ _ (by rfl) 31 iF Try.underlying23 hiF _ (by rfl) _ _ (by rfl) W.heap.size (by (first | exact Nat.le_refl _ | omega | (have := hWA.size; omega))) (by (first | exact heap_alloc_new _ _ | (refine (hkA.block _ (by (try simp); (try omega))).trans ?_; first | exact heap_alloc_new _ _ | exact heap_alloc2_new _ _ _ | exact heap_alloc2_old _ _ _))) ?_; intro vB wB hownB hgrowB; have hkB := kept_of_grown hgrowB; have hcB : Kept Wc wB := Kept.trans (by (repeat (first | assumption | exact Kept.refl _ | apply Kept.drew | apply Kept.alloc | (refine Kept.setCell ?_ (by dsimp only; omega) _)))) hkB; have hWB : Kept W wB := Kept.trans (by (repeat (first | assumption | exact Kept.refl _ | apply Kept.drew | apply Kept.alloc | (refine Kept.setCell ?_ (by dsimp only; omega) _)))) hkB; obtain ⟨oB, cB, rfl⟩ := owns_form' hownB; have rB := hownB; have rA2 := owns_kept' rA (Kept.trans (by (repeat (first | assumption | exact Kept.refl _ | apply Kept.drew | apply Kept.alloc | (refine Kept.setCell ?_ (by dsimp only; omega) _)))) hkB); clear hgrowB hownB; have z0 := (hWB.cell (w.heap.size + 1) 0 hlW).trans y0; have z1 := (hWB.cell (w.heap.size + 1) 1 hlW).trans y1; have z2 := (hWB.cell (w.heap.size + 1) 2 hlW).trans y2; have f0 := (hWB.frozen (w.heap.size + 1) 0 hlW).trans g0; have f1 := (hWB.frozen (w.heap.size + 1) 1 hlW).trans g1; have f2 := (hWB.frozen (w.heap.size + 1) 2 hlW).trans g2))
  all_goals go_wp2
  all_goals (
    have q0 : (((wB.setCell ⟨w.heap.size + 1, 0, none⟩ (.int .i64 f)).setCell ⟨w.heap.size + 1, 1, none⟩ (.slice oA L.length cA)).setCell ⟨w.heap.size + 1, 2, none⟩ (.slice oB 0 cB)).cell? ⟨w.heap.size + 1, 0, none⟩ = some (.int .i64 f) := (World.cell?_setCell_far2 (by decide)).trans ((World.cell?_setCell_far2 (by decide)).trans (World.cell?_setCell_same' _ _ _ (by rw [z0]; rfl)))
    have q1 : (((wB.setCell ⟨w.heap.size + 1, 0, none⟩ (.int .i64 f)).setCell ⟨w.heap.size + 1, 1, none⟩ (.slice oA L.length cA)).setCell ⟨w.heap.size + 1, 2, none⟩ (.slice oB 0 cB)).cell? ⟨w.heap.size + 1, 1, none⟩ = some (.slice oA L.length cA) := (World.cell?_setCell_far2 (by decide)).trans (World.cell?_setCell_same' _ _ _ (by rw [World.cell?_setCell_far2 (by decide), z1]; rfl))
    have q2 : (((wB.setCell ⟨w.heap.size + 1, 0, none⟩ (.int .i64 f)).setCell ⟨w.heap.size + 1, 1, none⟩ (.slice oA L.length cA)).setCell ⟨w.heap.size + 1, 2, none⟩ (.slice oB 0 cB)).cell? ⟨w.heap.size + 1, 2, none⟩ = some (.slice oB 0 cB) := World.cell?_setCell_same' _ _ _ (by rw [World.cell?_setCell_far2 (by decide), World.cell?_setCell_far2 (by decide), z2]; rfl)
    refine bodyPost_ret (v := .agg #[.int .i64 f, .slice oA L.length cA, .slice oB 0 cB]) (by simp [results, Try.results20, go_sem, q0, q1, q2]) rfl ?_)
  all_goals exact ⟨Kept.setCell (Kept.setCell (Kept.setCell (Kept.trans hkc hcB) (by dsimp only; omega) _) (by dsimp only; omega) _) (by dsimp only; omega) _, _, _, _, _, rfl, owns_base (ownsRow_setCell_below (ownsRow_setCell_below (ownsRow_setCell_below rA2 (by dsimp only; omega) _) (by dsimp only; omega) _) (by dsimp only; omega) _) (by omega), owns_base (ownsRow_setCell_below (ownsRow_setCell_below (ownsRow_setCell_below rB (by dsimp only; omega) _) (by dsimp only; omega) _) (by dsimp only; omega) _) (by omega)⟩
theorem Copy_any (f : Int) (o o' : Option Addr) (q q' : Nat) (L M : List Rec) (w : World) (hL : IsRecs w o L) (hM : IsRecs w o' M) (h1 : 0 < L.length) (h8 : L.length ≤ 8) (h30 : M.length ≤ 30) :
    Calls Try.prog 20 #[.agg #[.int .i64 f, .slice o L.length q, .slice o' M.length q']] w fun e w' => Kept w w' ∧ ∃ o1 c1 o2 c2, e = .returned (.agg #[.int .i64 f, .slice o1 L.length c1, .slice o2 M.length c2]) ∧
      w'.ownsRow w.heap.size 29 9 (.slice o1 L.length c1) L.length (recs L) ∧ w'.ownsRow w.heap.size 31 9 (.slice o2 M.length c2) M.length (recs M) := by
  obtain ⟨b, off, rfl, _⟩ := hL 0 h1
  by_cases h2 : 0 < M.length
  · obtain ⟨b', off', rfl, _⟩ := hM 0 h2
    exact Copy_some f b off b' off' q q' L M w hL hM h8 h30 h1 h2
  · have h0 : M.length = 0 := by omega
    obtain rfl : M = [] := List.eq_nil_of_length_eq_zero h0
    exact Copy_none f b off o' q q' L w hL h8 h1
end Go.Proofs.Ythhaicledbcnmaa

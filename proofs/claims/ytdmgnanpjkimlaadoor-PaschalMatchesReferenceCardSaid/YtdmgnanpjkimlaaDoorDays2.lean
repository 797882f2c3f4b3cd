/- Contract: package label: Days. -/
import Derived.Test.YtdmgnanpjkimlaaDoorDays
import Derived.Outline
set_option linter.unusedSimpArgs false
set_option linter.unusedVariables false
set_option linter.unusedSectionVars false
namespace Go.Proofs.YtdmgnanpjkimlaaDoor
open Go.ChangeShapes Go.WideShapes Go.ChangeAt Go.RowKit Go.Shelf
set_option maxHeartbeats 2000000
attribute [local go_sem] Oper.semAt_some

theorem info_pair : (Tryd.prog.info? 50).map (fun i => (i.zero, i.size, i.bytes)) = some (some (.agg #[.int .i64 0, .int .i64 0]), 2, 16) := by kernel_rfl
def bearsL (l : Int) (ps : List (Int × Int)) : List (Int × Int) := ps.filter fun p => bears p.1 p.2 l
def cellsP (ps : List (Int × Int)) : List Value := ps.flatMap fun p => [.int .i64 p.1, .int .i64 p.2]
theorem bearsL_hit (l : Int) (pre : List (Int × Int)) {x : Int × Int} (h : bears x.1 x.2 l = true) : bearsL l (pre ++ [x]) = bearsL l pre ++ [x] := by simp [bearsL, h]
theorem bearsL_miss (l : Int) (pre : List (Int × Int)) {x : Int × Int} (h : bears x.1 x.2 l = false) : bearsL l (pre ++ [x]) = bearsL l pre := by simp [bearsL, h]
theorem cell_two_new (w : World) (x y : Value) (t : TypeId) : ∀ j u, [x, y][j]? = some u → (w.alloc (.cells #[x, y] t)).cell? ((⟨w.heap.size, 0, none⟩ : Addr).add j) = some u := by
  intro j u hj
  match j, hj with
  | 0, hj =>
    simp at hj
    subst hj
    simp [Addr.add]
  | 1, hj =>
    simp at hj
    subst hj
    simp [Addr.add]
theorem boxed_kept {W W1 : World} {B : Nat} {t : TypeId} {v : Value} (h : Boxed W B t v) (k : Kept W W1) : Boxed W1 B t v := (k.block B h.lt).trans h
theorem kept_others {W W1 : World} (k : Kept W W1) : KeepsOthers W W1 :=
  ⟨k.size, fun i o hi _ => (k.block i (Array.getElem?_eq_some_iff.1 hi).1).trans hi⟩
theorem owns_keptD {w w' : World} {b n s : Nat} {e : TypeId} {v : Value} {xs : List Value} (h : w.ownsRow b e s v n xs) (k : Kept w w') : w'.ownsRow b e s v n xs := by
  obtain ⟨h1, h2 | ⟨g, cap, cur, h3, h4, h5, h6⟩⟩ := h
  · exact ⟨h1, .inl h2⟩
  · exact ⟨h1, .inr ⟨g, cap, cur, h3, h4, (k.block g (Array.getElem?_eq_some_iff.1 h5).1).trans h5, h6⟩⟩
theorem cellsP_snoc (ps : List (Int × Int)) (x : Int × Int) : cellsP (ps ++ [x]) = cellsP ps ++ [.int .i64 x.1, .int .i64 x.2] := by simp [cellsP]
theorem daysF (w : World) : Calls Tryd.prog 36 #[] w fun e w' => e = .returned (.func (.func 62) #[] #[]) ∧ w = w' := by
  go_enter Tryd.func36, Tryd.ntmps36
  go_wp2
  go_ret
  exact ⟨rfl, rfl⟩
set_option maxRecDepth 100000 in
theorem Days_of (l : Int) (w : World) (hT : LTab w) :
    Calls Tryd.prog 22 #[.int .i64 l] w fun e W' => ∃ v, e = .returned v ∧ W'.ownsRow w.heap.size 50 2 v (bearsL l dayList).length (cellsP (bearsL l dayList)) ∧ Kept w W' := by
  refine (callsIn_wide (n := 6)).1 ?_
  obtain ⟨i0, hi, hz0, hz1, hz2⟩ := info_parts info_pair
  refine callsIn_of_wp_marks Tryd.func22 rfl trivial ?_ rfl
  simp only [Tryd.ntmps22, List.size_toArray, List.length_cons, List.length_nil, Nat.reduceAdd, Nat.reduceSub, Array.replicate_succ, Array.replicate_zero, List.push_toArray, List.append_toArray, List.nil_append, List.cons_append]
  gi_wp2_with (refine ⟨trivial, ?_⟩; gi_at_call 36; refine (callsIn_wide.2 (daysF _)).mono ?_; rintro e w' ⟨rfl, rfl⟩)
  have bL := Boxed.new w 3 (.int .i64 l)
  have bO := Boxed.new (w.alloc (.cells #[.int .i64 l] 3)) 48 (.slice none 0 0)
  rw [World.size_alloc] at bO
  have hB0 : Below w.heap.size w ((w.alloc (.cells #[.int .i64 l] 3)).alloc (.cells #[.slice none 0 0] 48)) := ((Below.refl _ w).alloc (Nat.le_refl _) _).alloc (by simp) _
  have KT := Lib.hid hT
  refine wpIn_rangeFunc_ownG (F := Fence.wide) (n := 6) rfl (by omega) (gf := 62) (lb := #[]) rfl trivial (enters_of Tryd.func62 (by kernel_rfl) rfl)
    (days_stops (Below w.heap.size) Fence.wide (6 - 1) trivial rfl (by omega) _ (hT.kept hB0)) belowK_t (belowK_b (by simp; omega)) (Below.refl _ _) (fun _ => rfl)
    (fun pre W => (∃ v, Boxed W (w.heap.size + 1) 48 v ∧ W.ownsRow w.heap.size 50 2 v (bearsL l pre).length (cellsP (bearsL l pre)) ∧ True) ∧ Boxed W w.heap.size 3 (.int .i64 l) ∧ Below w.heap.size w W)
    (fun _ _ _ => False)
    (OwnFrom.and (Own.from (holdsRow_own w.heap.size (w.heap.size + 1) 48 50 2 (fun pre => (bearsL l pre).length) (fun pre => cellsP (bearsL l pre)) (fun pre v => True)) _) (OwnFrom.and (Own.from (boxed_own _ _ _) _) (ownFrom_below (Nat.le_refl _) (by simp; omega))))
    (fun _ _ _ _ _ hs _ _ => hs)
    ⟨⟨_, bO, World.ownsRow_nil _ _ _ _, trivial⟩, bL.alloc _, hB0⟩
    (fun x => { tmps := #[.int .i64 l, .pointer (some ⟨w.heap.size, 0, none⟩), .slice none 0 0, .pointer (some ⟨w.heap.size + 1, 0, none⟩), .int .i64 x.1, .int .i64 x.2, .func (.func 62) #[] #[], .int .i64 x.1, .int .i64 x.2, undef, undef, undef, undef, undef, undef, undef, undef, undef, undef, undef], defers := [] }) ?assign ?body ?done ?stop
  case assign =>
    intro l x W K hK
    gi_wp2
    exact hK
  case body =>
    rintro lr pre x W ⟨⟨v, hv, hrow, _⟩, hvl, hB⟩ hlt
    have hc := hv.cell
    have hcl := hvl.cell
    have hpl : (bearsL l pre).length ≤ pre.length := List.length_filter_le _ _
    have hTW := Lib.hid (KT.out.kept hB)
    have hBs := hB.size
    cases hb : bears x.1 x.2 l with
    | false =>
      have KX := Lib.hid (Bears_of x.1 x.2 l W hTW.out)
      rw [hb] at KX
      gi_wp2_with (refine ⟨trivial, ?_⟩; gi_at_call 19; refine (CallsIn.inRound lr (callsIn_wide.2 KX.out)).mono ?_; rintro e W1 ⟨rfl, hk1⟩)
      exact ⟨(kept_others hk1).from _, Below.mono hk1 hBs, ⟨v, boxed_kept hv hk1, by rw [bearsL_miss l pre hb]; exact owns_keptD hrow hk1, trivial⟩, boxed_kept hvl hk1, hB.trans (Below.mono hk1 hBs)⟩
    | true =>
      have KX := Lib.hid (Bears_of x.1 x.2 l W hTW.out)
      rw [hb] at KX
      gi_wp2_with (first | (refine ⟨trivial, ?_⟩; gi_at_call 19; refine (CallsIn.inRound lr (callsIn_wide.2 KX.out)).mono ?_; rintro e W1 ⟨rfl, hk1⟩; have hv0 := boxed_kept hv hk1; have hc0 := hv0.cell; have hrow0 := owns_keptD hrow hk1; have hs0 := hk1.size) | (gi_at_builtin; refine wpListIn_append_own _ rfl _ _ 48 rfl w.heap.size 50 i0 (.agg #[.int .i64 0, .int .i64 0]) 2 16 Tryd.underlying48 hi hz0 hz1 hz2 rfl (by decide) _ _ _ rfl (hrow0.alloc _) ⟨W1.heap.size, 0, none⟩ 1 1 [.int .i64 x.1, .int .i64 x.2] rfl rfl (cell_two_new _ _ _ _) (by simp [Value.oneCell']) (by unfold maxLen; omega) (by omega) (by simp; omega) ?_; intro v' w1 hown' hgrow _; obtain ⟨g', cap', rfl⟩ := ownsRow_succ hown'; obtain ⟨hv1, hv2, hr2, hk2, hb2⟩ := hv0.appended (by decide) hrow0 (by omega) (by omega) hown' hgrow; have hc1 := hv1.cell; have hf1 := hv1.frozen))
      have hvl1 : Boxed w1 w.heap.size 3 (.int .i64 l) := ((boxed_kept hvl hk1).alloc _).kept hgrow ((boxed_kept hvl hk1).not_row (by decide) hrow0)
      exact ⟨((kept_others hk1).trans hk2).from _, (Below.mono hk1 hBs).trans hb2, ⟨_, hv2, by rw [bearsL_hit l pre hb, cellsP_snoc]; simpa using hr2, trivial⟩, hvl1.kept (grownBy_setCell' w1 _ _) (by simp), (hB.trans (Below.mono hk1 hBs)).trans hb2⟩
  case done =>
    rintro D ys W hD rfl ⟨⟨v, hv, hrow, _⟩, hvl, hB⟩ hK
    have hc := hv.cell
    gi_wp2
    refine ⟨by simp, .inl ⟨_, _, rfl, run_takeDeferred hK, ?_⟩⟩
    exact ⟨_, results_tmp rfl _ _ _, v, rfl, ownsRow_putObj hrow _ hK rfl, hB.trans (belowK_b (w := w) (Nat.le_refl _) W D _ _ (by simp at hD; omega) hK rfl rfl)⟩
  case stop =>
    rintro D c pre W _ _ h _
    exact h.elim
end Go.Proofs.YtdmgnanpjkimlaaDoor

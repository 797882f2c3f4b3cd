/- CycleMatchesReference: equal histograms; the loop of the law. -/
import Derived.Test.YtekgaihdfnhkpaaCycH
import Derived.Test.YtekgaihdfnhkpaaRows
import Derived.DeepKeys
set_option linter.unusedSimpArgs false
set_option linter.unusedVariables false
set_option linter.unusedSectionVars false
namespace Go.Proofs.Ytekgaihdfnhkpaa
open Go.ChangeShapes Go.WideShapes Go.ChangeAt Go.RowKit
set_option maxHeartbeats 1000000
set_option maxRecDepth 20000

theorem mapM_ok {α β : Type} (l : List α) (f : α → Option β) (g : α → β) (h : ∀ x ∈ l, f x = some (g x)) : l.mapM f = some (l.map g) := by
  induction l with
  | nil => rfl
  | cons x t ih =>
    rw [List.mapM_cons, h x (by simp), ih (fun y hy => h y (by simp [hy]))]
    rfl
theorem cells35 : Try.prog.cellsOf 42 = 35 := by kernel_rfl
theorem cellsI : Try.prog.cellsOf 3 = 1 := by kernel_rfl
theorem lits_h (h : Nat → Int) (hb : ∀ j, 0 ≤ h j ∧ h j ≤ 10000) : ∃ ls, Try.prog.keyLits 2 42 (hCells h) = some ls := by
  unfold Program.keyLits
  have hl : (hCells h).length = 35 := by simp [hCells]
  simp only [Try.underlying42, cells35, cellsI, hl, if_true]
  have hm : (List.range 35).mapM (fun i => Try.prog.keyLits 1 3 (((hCells h).drop (i * 1)).take 1)) = some ((List.range 35).map fun i => [Lit.int .i64 (h i)]) := by
    apply mapM_ok
    intro i hi
    have hi' : i < 35 := by simpa using hi
    have e : ((hCells h).drop (i * 1)).take 1 = [.int .i64 (h i)] := by
      have := hCells_at h i hi'
      rw [List.getElem?_eq_getElem (by omega)] at this
      rw [Nat.mul_one, List.drop_eq_getElem_cons (by omega), Option.some.inj this]
      rfl
    rw [e]
    have hbi := hb i
    have hwf : (Lit.int .i64 (h i)).wf = true := by
      simp [Lit.wf, IntKind.min, IntKind.max, IntKind.signed, IntKind.bits]
      omega
    unfold Program.keyLits
    simp only [Try.underlying3, hwf, and_self, if_true]
  rw [hm]
  exact ⟨_, rfl⟩
theorem eqH (h : Nat → Int) (hb : ∀ j, 0 ≤ h j ∧ h j ≤ 10000) (w : World) : (Op.equalIn 10000 42 (.agg (hCells h).toArray) (.agg (hCells h).toArray)).run Try.prog w = .ok true w := by
  obtain ⟨ls, hls⟩ := lits_h h hb
  have hf : (Value.agg (hCells h).toArray).formed Try.prog 42 = true := by
    unfold Value.formed
    simp only [Try.underlying42, cells35, hSize]
    rfl
  obtain ⟨r, h1, h2⟩ := run_equalIn_deep 9998 2 42 (by kernel_rfl) w 2 2 _ _ ls ls hf hf hls hls
  rw [h1, h2.2 rfl]
theorem eq0 (H : Nat → Int) (hH : H = fun _ => 0) (w : World) : (Op.equalIn 10000 42 (.agg (hCells H).toArray) (.agg #[.int .i64 0, .int .i64 0, .int .i64 0, .int .i64 0, .int .i64 0, .int .i64 0, .int .i64 0, .int .i64 0, .int .i64 0, .int .i64 0, .int .i64 0, .int .i64 0, .int .i64 0, .int .i64 0, .int .i64 0, .int .i64 0, .int .i64 0, .int .i64 0, .int .i64 0, .int .i64 0, .int .i64 0, .int .i64 0, .int .i64 0, .int .i64 0, .int .i64 0, .int .i64 0, .int .i64 0, .int .i64 0, .int .i64 0, .int .i64 0, .int .i64 0, .int .i64 0, .int .i64 0, .int .i64 0, .int .i64 0])).run Try.prog w = .ok true w := by
  subst hH
  rw [← zero_cells]
  exact eqH _ (fun j => by omega) w
theorem HBlk.other {w : World} {b b' o : Nat} {h : Nat → Int} (q : HBlk w b h) (hne : b ≠ b') (u : Value) : HBlk (w.setCell ⟨b', o, none⟩ u) b h := (Below.heap_setCell w _ u b hne).trans q
/-- The best year of the law's loop. -/
def bb (c f : Int) (n : Nat) : Int := if n = 0 then f else (bst c f n).1
theorem bb_step (c f : Int) (n : Nat) : (if easI c (f + n) - 1 < easI c (bb c f n) - 1 then f + n else bb c f n) = bb c f (n + 1) := by
  have hs : bst c f (n + 1) = if easI c (f + n) - 1 < (bst c f n).2 then (f + n, easI c (f + n) - 1) else bst c f n := rfl
  have e : bb c f (n + 1) = (bst c f (n + 1)).1 := if_neg (by omega)
  rw [e, hs]
  cases n with
  | zero =>
    have h := easI_idx c (f + (0 : Nat))
    have e2 : (bst c f 0).2 = 35 := rfl
    have e3 : bb c f 0 = f := if_pos rfl
    have e4 : f + ((0 : Nat) : Int) = f := by simp
    rw [e2, e3, e4, if_neg (by omega)]
    rw [e4] at h
    rw [if_pos (by omega)]
  | succ n =>
    have e3 : bb c f (n + 1) = (bst c f (n + 1)).1 := if_neg (by omega)
    rw [e3, ← bst_at c f (n + 1) (by omega)]
    split <;> rfl
theorem bb_range (c f : Int) (n : Nat) : f ≤ bb c f n ∧ bb c f n ≤ f + n := by
  unfold bb
  split
  · omega
  · have := bst_year c f n (by omega)
    omega
theorem In_any (y : Int) (w : World) (b : Bool) (h : b = decide (1 ≤ y ∧ y ≤ 1000000000)) :
    Calls Try.prog 12 #[.int .i64 y] w fun e w' => e = .returned (.bool b) ∧ w = w' := by
  subst h
  by_cases g : 1 ≤ y ∧ y ≤ 1000000000
  · rw [decide_eq_true g]; exact In_yes y w g.1 g.2
  · rw [decide_eq_false g]; exact In_no y w (by omega)
end Go.Proofs.Ytekgaihdfnhkpaa

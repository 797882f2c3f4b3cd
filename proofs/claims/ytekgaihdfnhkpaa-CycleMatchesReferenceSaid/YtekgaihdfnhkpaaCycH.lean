/- Histograms: plain laws, and the blocks that hold them. -/
import Derived.Test.YtekgaihdfnhkpaaCycAw
import Derived.Test.YtekgaihdfnhkpaaRows
set_option linter.unusedSimpArgs false
set_option linter.unusedVariables false
set_option linter.unusedSectionVars false
namespace Go.Proofs.Ytekgaihdfnhkpaa
open Go.ChangeShapes Go.WideShapes Go.ChangeAt Go.RowKit
set_option maxHeartbeats 1000000
set_option maxRecDepth 20000

theorem cnt_add (c f j : Int) (a b : Nat) : cnt c f j (a + b) = cnt c f j a + cnt c (f + a) j b := by
  induction b with
  | zero => rfl
  | succ b ih =>
    have e1 : cnt c f j (a + b + 1) = if easI c (f + (a + b : Nat)) - 1 = j then cnt c f j (a + b) + 1 else cnt c f j (a + b) := rfl
    have e2 : cnt c (f + a) j (b + 1) = if easI c (f + a + b) - 1 = j then cnt c (f + a) j b + 1 else cnt c (f + a) j b := rfl
    have e3 : f + ((a + b : Nat) : Int) = f + a + b := by omega
    rw [← Nat.add_assoc, e1, e2, e3, ih]
    split <;> omega
def sm (h : Nat → Int) : Nat → Int
  | 0 => 0
  | j + 1 => sm h j + h j
theorem sm_upd (h : Nat → Int) (a m : Nat) : sm (fun j => if j = a then h j + 1 else h j) m = sm h m + if a < m then 1 else 0 := by
  induction m with
  | zero => simp [sm]
  | succ m ih =>
    have e1 : sm (fun j => if j = a then h j + 1 else h j) (m + 1) = sm (fun j => if j = a then h j + 1 else h j) m + (if m = a then h m + 1 else h m) := rfl
    have e2 : sm h (m + 1) = sm h m + h m := rfl
    rw [e1, e2, ih]
    by_cases g : m = a
    · subst g; rw [if_pos rfl, if_neg (by omega), if_pos (by omega)]; omega
    · rw [if_neg g]
      by_cases g2 : a < m
      · rw [if_pos g2, if_pos (by omega)]; omega
      · rw [if_neg g2, if_neg (by omega)]; omega
theorem sm_hst (c f : Int) (n : Nat) : sm (hst c f n) 35 = n := by
  induction n with
  | zero =>
    have : ∀ m, sm (hst c f 0) m = 0 := by
      intro m
      induction m with
      | zero => rfl
      | succ m ih =>
        have e : sm (hst c f 0) (m + 1) = sm (hst c f 0) m + hst c f 0 m := rfl
        rw [e, ih]
        rfl
    rw [this]
    rfl
  | succ n ih =>
    have h := easI_idx c (f + n)
    rw [← hst_step, sm_upd, ih, if_pos (by omega)]
    omega
theorem hst_range (c f : Int) (n j : Nat) : 0 ≤ hst c f n j ∧ hst c f n j ≤ n := by
  have := cnt_le c f (j : Int) n
  unfold hst
  omega
theorem sm_range (h : Nat → Int) (b : Int) (hb : ∀ j, 0 ≤ h j ∧ h j ≤ b) (m : Nat) : 0 ≤ sm h m ∧ sm h m ≤ b * m := by
  induction m with
  | zero => simp [sm]
  | succ m ih =>
    have e : sm h (m + 1) = sm h m + h m := rfl
    have := hb m
    rw [e]
    have e2 : b * ((m + 1 : Nat) : Int) = b * m + b := by rw [show ((m + 1 : Nat) : Int) = (m : Int) + 1 from rfl, Int.mul_add, Int.mul_one]
    omega
theorem rg_fit (k f l : Int) (h1 : Fit k f) (h2 : Fit k l) (h3 : f ≤ l) (h4 : l - f ≤ 9999) : rgE k f l = 0 := by
  unfold rgE
  rcases fl_cases k f with ⟨_, e⟩ | ⟨g, e⟩ | ⟨g, e⟩
  · rw [if_neg (by omega)]
    rcases fl_cases k l with ⟨_, e⟩ | ⟨g, e⟩ | ⟨g, e⟩
    · rw [if_neg (by omega), if_neg (by omega)]
    · unfold Off at g; unfold Fit at h2; omega
    · unfold Fit at h2; omega
  · unfold Off at g; unfold Fit at h1; omega
  · unfold Fit at h1; omega
theorem new42 (w : World) : (w.alloc (.cells #[.int .i64 0, .int .i64 0, .int .i64 0, .int .i64 0, .int .i64 0, .int .i64 0, .int .i64 0, .int .i64 0, .int .i64 0, .int .i64 0, .int .i64 0, .int .i64 0, .int .i64 0, .int .i64 0, .int .i64 0, .int .i64 0, .int .i64 0, .int .i64 0, .int .i64 0, .int .i64 0, .int .i64 0, .int .i64 0, .int .i64 0, .int .i64 0, .int .i64 0, .int .i64 0, .int .i64 0, .int .i64 0, .int .i64 0, .int .i64 0, .int .i64 0, .int .i64 0, .int .i64 0, .int .i64 0, .int .i64 0] 42)).heap[w.heap.size]? = some (.cells #[.int .i64 0, .int .i64 0, .int .i64 0, .int .i64 0, .int .i64 0, .int .i64 0, .int .i64 0, .int .i64 0, .int .i64 0, .int .i64 0, .int .i64 0, .int .i64 0, .int .i64 0, .int .i64 0, .int .i64 0, .int .i64 0, .int .i64 0, .int .i64 0, .int .i64 0, .int .i64 0, .int .i64 0, .int .i64 0, .int .i64 0, .int .i64 0, .int .i64 0, .int .i64 0, .int .i64 0, .int .i64 0, .int .i64 0, .int .i64 0, .int .i64 0, .int .i64 0, .int .i64 0, .int .i64 0, .int .i64 0] 42 (0, 0)) := by
  show (w.heap.push _)[w.heap.size]? = _
  exact Array.getElem?_push_size
theorem rH (h : Nat → Int) : (Try.prog.info? 42).map (·.size) = some (hCells h).toArray.size := by rw [hSize]; exact info_hist
theorem zH (h : Nat → Int) : (#[.int .i64 0, .int .i64 0, .int .i64 0, .int .i64 0, .int .i64 0, .int .i64 0, .int .i64 0, .int .i64 0, .int .i64 0, .int .i64 0, .int .i64 0, .int .i64 0, .int .i64 0, .int .i64 0, .int .i64 0, .int .i64 0, .int .i64 0, .int .i64 0, .int .i64 0, .int .i64 0, .int .i64 0, .int .i64 0, .int .i64 0, .int .i64 0, .int .i64 0, .int .i64 0, .int .i64 0, .int .i64 0, .int .i64 0, .int .i64 0, .int .i64 0, .int .i64 0, .int .i64 0, .int .i64 0, .int .i64 0] : Array Value).size = (hCells h).toArray.size := by rw [hSize]; rfl
/-- A new block, and the histogram stored in it. -/
theorem laid_h (w w1 : World) (h : Nat → Int) (k : Kept w w1) : HBlk ((w1.alloc (.cells #[.int .i64 0, .int .i64 0, .int .i64 0, .int .i64 0, .int .i64 0, .int .i64 0, .int .i64 0, .int .i64 0, .int .i64 0, .int .i64 0, .int .i64 0, .int .i64 0, .int .i64 0, .int .i64 0, .int .i64 0, .int .i64 0, .int .i64 0, .int .i64 0, .int .i64 0, .int .i64 0, .int .i64 0, .int .i64 0, .int .i64 0, .int .i64 0, .int .i64 0, .int .i64 0, .int .i64 0, .int .i64 0, .int .i64 0, .int .i64 0, .int .i64 0, .int .i64 0, .int .i64 0, .int .i64 0, .int .i64 0] 42)).setRow w1.heap.size (hCells h).toArray) w1.heap.size h ∧ Kept w ((w1.alloc (.cells #[.int .i64 0, .int .i64 0, .int .i64 0, .int .i64 0, .int .i64 0, .int .i64 0, .int .i64 0, .int .i64 0, .int .i64 0, .int .i64 0, .int .i64 0, .int .i64 0, .int .i64 0, .int .i64 0, .int .i64 0, .int .i64 0, .int .i64 0, .int .i64 0, .int .i64 0, .int .i64 0, .int .i64 0, .int .i64 0, .int .i64 0, .int .i64 0, .int .i64 0, .int .i64 0, .int .i64 0, .int .i64 0, .int .i64 0, .int .i64 0, .int .i64 0, .int .i64 0, .int .i64 0, .int .i64 0, .int .i64 0] 42)).setRow w1.heap.size (hCells h).toArray) ∧ Kept w1 ((w1.alloc (.cells #[.int .i64 0, .int .i64 0, .int .i64 0, .int .i64 0, .int .i64 0, .int .i64 0, .int .i64 0, .int .i64 0, .int .i64 0, .int .i64 0, .int .i64 0, .int .i64 0, .int .i64 0, .int .i64 0, .int .i64 0, .int .i64 0, .int .i64 0, .int .i64 0, .int .i64 0, .int .i64 0, .int .i64 0, .int .i64 0, .int .i64 0, .int .i64 0, .int .i64 0, .int .i64 0, .int .i64 0, .int .i64 0, .int .i64 0, .int .i64 0, .int .i64 0, .int .i64 0, .int .i64 0, .int .i64 0, .int .i64 0] 42)).setRow w1.heap.size (hCells h).toArray) :=
  ⟨setRow_heap _ _ _ _ _ _ (new42 w1), (k.alloc _).setRow k.size _, ((Kept.refl w1).alloc _).setRow (Nat.le_refl _) _⟩
end Go.Proofs.Ytekgaihdfnhkpaa

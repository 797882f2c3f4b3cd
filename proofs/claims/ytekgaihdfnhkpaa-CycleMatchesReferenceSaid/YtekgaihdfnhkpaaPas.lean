/- Contracts: package paschal: NewMoon, FullMoon. -/
import Derived.Test.YtekgaihdfnhkpaaEpact
import Derived.Outline
import Derived.ScopeJumps
import Derived.WalkMore
set_option linter.unusedSimpArgs false
set_option linter.unusedVariables false
set_option linter.unusedSectionVars false
namespace Go.Proofs.Ytekgaihdfnhkpaa
open Go.ChangeShapes Go.WideShapes Go.ChangeAt Go.RowKit
set_option maxHeartbeats 800000
set_option maxRecDepth 20000

theorem fit_cal (k y : Int) (h : Fit k y) : IsCal k ∧ 1 ≤ y ∧ y ≤ 1000000000 := by unfold Fit at h; unfold IsCal; omega
theorem fit_sm (k y : Int) (h : Fit k y) : Sm k := by unfold Fit at h; unfold Sm; omega
theorem day_c (k y i : Int) (h : Fit k y) (h1 : -20 ≤ i) (h2 : i ≤ 40) : cE k y (dmo i) (dda i) = 0 ∧ cN k y (dmo i) (dda i) = eqN k y + i := by
  obtain ⟨a, b, c⟩ := fit_cal k y h
  obtain ⟨o, e⟩ := day_ok k y i b c h1 h2
  rcases c_cases k y (dmo i) (dda i) with ⟨_, _, e1, e2⟩ | ⟨_, _, _, n⟩
  · exact ⟨e2, by rw [e1, e]⟩
  · exact absurd ⟨a, o⟩ n
theorem fd_day (k y i : Int) (h : Fit k y) (h1 : -20 ≤ i) (h2 : i ≤ 40) : FdC k (eqN k y + i) y (dmo i) (dda i) 0 := by
  obtain ⟨a, b, c⟩ := fit_cal k y h
  obtain ⟨o, e⟩ := day_ok k y i b c h1 h2
  exact .inl ⟨a, .inr ⟨o, e, rfl⟩⟩
theorem sh_ok (k y i n : Int) (h : Fit k y) (h1 : -20 ≤ i) (h2 : i ≤ 40) (h3 : -20 ≤ i + n) (h4 : i + n ≤ 40) : ShRel k y (dmo i) (dda i) n y (dmo (i + n)) (dda (i + n)) 0 := by
  obtain ⟨e1, e2⟩ := day_c k y i h h1 h2
  refine .inr ⟨e1, ?_⟩
  rw [e2, show eqN k y + i + n = eqN k y + (i + n) from by omega]
  exact fd_day k y (i + n) h h3 h4
/-- The error of a date in a calendar with new moons. -/
def nmE (c y m d : Int) : Int := if flE c y = 0 then cE c y m d else flE c y
def nmB (c y m d : Int) : Bool := decide (nmE c y m d = 0) && bears m d (labN c y)
theorem cE_range (c y m d : Int) : 0 ≤ cE c y m d ∧ cE c y m d ≤ 3 := by rcases c_cases c y m d with ⟨_, _, _, h'⟩ | ⟨_, h', _⟩ <;> omega
theorem moon_bears (k y i : Int) (h : 0 ≤ i) (h' : i ≤ 28) : bears (dmo (i - 13)) (dda (i - 13)) (labN k y) = decide (i = moonI k y) := by
  have hb := labN_bounds k y
  exact first_ok (labN k y) i hb.1 hb.2 h h'
/-- A date lies in the block b, and may be written. -/
def Dblk (w : World) (b : Nat) (y m d : Value) : Prop := w.heap[b]? = some (.cells #[y, m, d] 35 (0, 0))
theorem Dblk.kept {w w' : World} {b : Nat} {y m d : Value} (h : Dblk w b y m d) (k : Kept w w') : Dblk w' b y m d := (k.block b (Array.getElem?_eq_some_iff.1 h).1).trans h
theorem Dblk.lt {w : World} {b : Nat} {y m d : Value} (h : Dblk w b y m d) : b < w.heap.size := (Array.getElem?_eq_some_iff.1 h).1
theorem Dblk.cells {w : World} {b : Nat} {y m d : Value} (h : Dblk w b y m d) : w.cell? ⟨b, 0, none⟩ = some y ∧ w.cell? ⟨b, 1, none⟩ = some m ∧ w.cell? ⟨b, 2, none⟩ = some d ∧ w.frozen? ⟨b, 0, none⟩ = false ∧ w.frozen? ⟨b, 1, none⟩ = false ∧ w.frozen? ⟨b, 2, none⟩ = false := by
  unfold Dblk at h
  simp [World.cell?, World.frozen?, h]
theorem Dblk.new (w : World) (y m d : Value) : Dblk (w.alloc (.cells #[y, m, d] 35)) w.heap.size y m d := by
  show (w.heap.push _)[w.heap.size]? = _
  exact Array.getElem?_push_size
theorem Dblk.alloc {w : World} {b : Nat} {y m d : Value} (h : Dblk w b y m d) (o : Obj) : Dblk (w.alloc o) b y m d := h.kept ((Kept.refl w).alloc o)
theorem Dblk.set0 {w : World} {b : Nat} {y m d : Value} (h : Dblk w b y m d) (u : Value) : Dblk (w.setCell ⟨b, 0, none⟩ u) b u m d := by
  obtain ⟨hlt, hk⟩ := Array.getElem?_eq_some_iff.1 h
  show (w.heap.modify b _)[b]? = _
  rw [Array.getElem?_eq_getElem (by rw [Array.size_modify]; exact hlt), Array.getElem_modify_self, hk]
  rfl
theorem Dblk.set1 {w : World} {b : Nat} {y m d : Value} (h : Dblk w b y m d) (u : Value) : Dblk (w.setCell ⟨b, 1, none⟩ u) b y u d := by
  obtain ⟨hlt, hk⟩ := Array.getElem?_eq_some_iff.1 h
  show (w.heap.modify b _)[b]? = _
  rw [Array.getElem?_eq_getElem (by rw [Array.size_modify]; exact hlt), Array.getElem_modify_self, hk]
  rfl
theorem Dblk.set2 {w : World} {b : Nat} {y m d : Value} (h : Dblk w b y m d) (u : Value) : Dblk (w.setCell ⟨b, 2, none⟩ u) b y m u := by
  obtain ⟨hlt, hk⟩ := Array.getElem?_eq_some_iff.1 h
  show (w.heap.modify b _)[b]? = _
  rw [Array.getElem?_eq_getElem (by rw [Array.size_modify]; exact hlt), Array.getElem_modify_self, hk]
  rfl
theorem Dblk.other {w : World} {b b' : Nat} {y m d : Value} (h : Dblk w b y m d) (hne : b ≠ b') (o : Nat) (u : Value) : Dblk (w.setCell ⟨b', o, none⟩ u) b y m d :=
  (Below.heap_setCell w _ u b hne).trans h
/-- The day that the loop's date is at. -/
def dayOf (a : Act) (w : World) : Int :=
  match a.tmps.getD 8 undef with
  | .pointer (some p) => (match w.cell? ⟨p.block, 1, none⟩, w.cell? ⟨p.block, 2, none⟩ with
    | some (.int _ m), some (.int _ d) => if m = 3 then d - 21 else d + 10
    | _, _ => 0)
  | _ => 0
theorem dayOf_eq (a : Act) (w : World) (bd : Nat) (y i : Int) (h : a.tmps.getD 8 undef = .pointer (some ⟨bd, 0, none⟩)) (HB : Dblk w bd (.int .i64 y) (.int .i64 (dmo i)) (.int .i64 (dda i))) : dayOf a w = i := by
  obtain ⟨_, b2, b3, _⟩ := HB.cells
  unfold dayOf
  rw [h]
  simp only [b2, b3]
  unfold dmo dda
  by_cases c : i ≤ 10
  · rw [if_pos c, if_pos c, if_pos rfl]; omega
  · rw [if_neg c, if_neg c, if_neg (by decide)]; omega
end Go.Proofs.Ytekgaihdfnhkpaa

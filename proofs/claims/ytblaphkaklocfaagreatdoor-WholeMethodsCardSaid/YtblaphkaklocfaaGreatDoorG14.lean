/- Contracts and plain lemmas: Srt, Blk. -/
import Derived.Test.YtblaphkaklocfaaGreatDoorG01
import Derived.Test.YtblaphkaklocfaaGreatDoorG12
import Derived.Test.YtblaphkaklocfaaGreatDoorG13
import Derived.Shelf.SlSortFuncK.ComposeK
import Derived.RangeFuncBox
import Derived.RangeFuncLeaves
import Derived.RangeFuncNested
set_option linter.unusedSimpArgs false
set_option linter.unusedVariables false
set_option linter.unusedSectionVars false
/- Contracts: season.find's closures; slices.SortStableFunc at twenty starts or fewer. -/
namespace Go.Proofs.YtblaphkaklocfaaGreatDoor
open Go.ChangeShapes Go.WideShapes Go.ChangeAt Go.RowKit Go.Sort
set_option maxHeartbeats 2000000
set_option maxRecDepth 20000

abbrev encP (x : Int × Int) : List Value := [.int .i64 x.1, .int .i64 x.2]
def cmpP (x y : Int × Int) : Int := wrap64 (x.1 - y.1)
theorem cmpP_clos (x y : Int × Int) (W : World) : Calls Tryz.prog 255 #[.agg #[.int .i64 x.1, .int .i64 x.2], .agg #[.int .i64 y.1, .int .i64 y.2]] W fun e w' => e = .returned (.int .i64 (cmpP x y)) ∧ ∃ q os', w' = grow (W.drewN q) os' := by
  unfold cmpP
  obtain ⟨x1, x2⟩ := x
  obtain ⟨y1, y2⟩ := y
  dsimp only
  go_enter Tryz.func255, Tryz.ntmps255
  go_wp2
  go_ret
  exact ⟨rfl, 0, _, by rw [alloc_eq_grow, alloc_eq_grow, grow_grow]; rfl⟩
theorem cmpP_lays (blk off size : Nat) (w : World) : CmpLays Tryz.prog 255 #[] encP 2 cmpP blk off size w :=
  fun _ _ _ _ x y => cmpP_clos x y _
theorem encP_len (x : Int × Int) : (encP x).length = 2 := rfl
theorem encP_one (x : Int × Int) : ∀ v ∈ encP x, v.oneCell' = true := fun v hv => by
  simp [encP] at hv
  rcases hv with rfl | rfl <;> rfl
theorem kept_sortK {W w : World} {blk off n : Nat} {X : Array (Int × Int)} {os : Array Obj} (k : Kept W w) (hb : W.heap.size ≤ blk) : Kept W (sortWorldK encP 2 w blk off n X os) := by
  have hs := k.size
  refine Below.trans k ⟨rfl, rfl, rfl, ?_, fun j hj => ?_⟩
  · unfold sortWorldK
    rw [Sort.size_grow, size_putRowK]
    exact Nat.le_add_right _ _
  · unfold sortWorldK
    rw [Sort.heap_grow_old _ _ (by rw [size_putRowK]; show j < w.heap.size; omega)]
    show (w.heap.modify blk _)[j]? = _
    rw [Array.getElem?_modify, if_neg (by omega)]
theorem insCmp_at (blk off cap a b : Nat) (d : Array (Int × Int)) (w : World) (hH : HoldsK encP 2 w blk off d) (hblk : blk < w.heap.size) (hab : a ≤ b) (hb : b ≤ d.size) (hsz : d.size < 4611686018427387904) :
    Calls Tryz.prog 284 #[.slice (some ⟨blk, off, none⟩) d.size cap, .int .i64 a, .int .i64 b, .func (.func 255) #[] #[]] w fun e w' =>
      e = .returned (.tuple #[]) ∧ ∃ n os, w' = sortWorldK encP 2 w blk off n (Sort.insertionSort (ltOf cmpP) d a b) os :=
  AnyQ.insertionSortCmpFunc Tryz.insCmp 2 Tryz.isAgg255 Tryz.sizeOf255 encP encP_len encP_one cmpP 255 #[] blk off cap a b d w (enters_of Tryz.func255 (by kernel_rfl) rfl) (cmpP_lays blk off d.size w) hH hblk hab hb hsz
theorem sort_none (d : Array (Int × Int)) (a b : Nat) (h : b ≤ a + 1) : Sort.insertionSort (ltOf cmpP) d a b = d := by
  unfold Sort.insertionSort
  rw [Sort.insOuter, if_neg (by omega)]
set_option maxHeartbeats 4000000 in
theorem SortP_ok (blk cap : Nat) (d : Array (Int × Int)) (w : World) (hH : HoldsK encP 2 w blk 0 d) (hblk : blk < w.heap.size) (h20 : d.size ≤ 20) :
    Calls Tryz.prog 254 #[.slice (some ⟨blk, 0, none⟩) d.size cap, .func (.func 255) #[] #[]] w fun e w' =>
      e = .returned (.tuple #[]) ∧ ∃ n os, w' = sortWorldK encP 2 w blk 0 n (Sort.insertionSort (ltOf cmpP) d 0 d.size) os := by
  have KS : Hid (∀ w', w' = w → Calls Tryz.prog 274 #[.slice (some ⟨blk, 0, none⟩) d.size cap, .int .i64 d.size, .func (.func 255) #[] #[]] w' fun e w' =>
      e = .returned (.tuple #[]) ∧ ∃ n os, w' = sortWorldK encP 2 w blk 0 n (Sort.insertionSort (ltOf cmpP) d 0 d.size) os) := by
    rintro w' rfl
    have KI := Lib.hid (insCmp_at blk 0 cap 0 d.size d w' hH hblk (Nat.zero_le _) (Nat.le_refl _) (by omega))
    by_cases h : d.size < 20
    · have h1 : ¬ (20 : Int) ≤ (d.size : Int) := by omega
      have h2 : ¬ (20 : Int) < (d.size : Int) := by omega
      clear hH h20
      generalize Sort.insertionSort (ltOf cmpP) d 0 d.size = r at *
      generalize d.size = n at *
      go_enter Tryz.func274, Tryz.ntmps274
      go_wp2
      refine wp_loop_rounds 1 ?_
      rw [rounds_succ]
      go_wp2_with (go_at_call 284; refine KI.out.mono ?_; rintro e w1 ⟨rfl, n, os, rfl⟩)
      refine wp_loop_rounds 1 ?_
      rw [rounds_succ]
      go_wp2
      go_end0
      exact ⟨rfl, n, os, rfl⟩
    · have hn : d.size = 20 := by omega
      have hsz : (Sort.insertionSort (ltOf cmpP) d 0 d.size).size = d.size := by
        have := isort_is (ltOf cmpP) d.toList
        rw [Array.toArray_toList] at this
        rw [this, List.size_toArray, List.length_reverse, isortR_length, Array.length_toList]
      have KJ : Hid (∀ n os, Calls Tryz.prog 284 #[.slice (some ⟨blk, 0, none⟩) 20 cap, .int .i64 20, .int .i64 20, .func (.func 255) #[] #[]] (sortWorldK encP 2 w' blk 0 n (Sort.insertionSort (ltOf cmpP) d 0 d.size) os) fun e w2 =>
          e = .returned (.tuple #[]) ∧ ∃ n os, w2 = sortWorldK encP 2 w' blk 0 n (Sort.insertionSort (ltOf cmpP) d 0 d.size) os) := fun n os => by
        have := insCmp_at blk 0 cap 20 20 (Sort.insertionSort (ltOf cmpP) d 0 d.size) (sortWorldK encP 2 w' blk 0 n (Sort.insertionSort (ltOf cmpP) d 0 d.size) os) (holdsK_sortWorldK encP 2 w' blk 0 n d _ os hblk hH hsz) (Nat.lt_of_lt_of_le hblk (size_sortWorldK_c encP 2 w' blk 0 n _ os)) (Nat.le_refl _) (by omega) (by omega)
        rw [hsz, hn, sort_none _ 20 20 (by omega)] at this
        rw [hn]
        refine Calls.mono this ?_
        rintro e w2 ⟨rfl, m, os2, rfl⟩
        exact ⟨rfl, _, _, sortWorldK_on encP 2 w' blk 0 n m _ _ os os2 hblk rfl⟩
      rw [hn] at KI KJ ⊢
      clear hH h20 hsz
      generalize Sort.insertionSort (ltOf cmpP) d 0 20 = r at *
      go_enter Tryz.func274, Tryz.ntmps274
      go_wp2
      refine wp_loop_rounds 2 ?_
      rw [rounds_succ]
      go_wp2_with (go_at_call 284; refine KI.out.mono ?_; rintro e w1 ⟨rfl, n, os, rfl⟩)
      rw [rounds_succ]
      go_wp2_with (go_at_call 284; refine (KJ.out _ _).mono ?_; rintro e w1 ⟨rfl, n, os, rfl⟩)
      refine wp_loop_rounds 1 ?_
      rw [rounds_succ]
      go_wp2
      go_end0
      exact ⟨rfl, _, _, rfl⟩
  clear hH hblk h20
  generalize Sort.insertionSort (ltOf cmpP) d 0 d.size = r at *
  go_enter Tryz.func254, Tryz.ntmps254
  go_wp2_with (go_at_call 274; refine (KS.out _ rfl).mono ?_; rintro e w1 ⟨rfl, n, os, rfl⟩)
  go_end0
  exact ⟨rfl, n, os, rfl⟩
end Go.Proofs.YtblaphkaklocfaaGreatDoor
/- Whole blocks of cells: what they hold, and how that is kept. No program in sight. -/
namespace Go.Proofs.YtblaphkaklocfaaGreatDoor
open Go.ChangeShapes Go.WideShapes Go.ChangeAt Go.RowKit

/-- The block b holds the cells cs, of type t; none of them is frozen. -/
def Blk (w : World) (b : Nat) (cs : Array Value) (t : TypeId) : Prop := w.heap[b]? = some (.cells cs t (0, 0))
theorem Blk.lt {w : World} {b : Nat} {cs : Array Value} {t : TypeId} (h : Blk w b cs t) : b < w.heap.size := (Array.getElem?_eq_some_iff.1 h).1
theorem Blk.kept {w w' : World} {b : Nat} {cs : Array Value} {t : TypeId} (h : Blk w b cs t) (k : Kept w w') : Blk w' b cs t := (k.block b h.lt).trans h
theorem Blk.below {B : Nat} {w w' : World} {b : Nat} {cs : Array Value} {t : TypeId} (h : Blk w b cs t) (k : Below B w w') (hb : b < B) : Blk w' b cs t := (k.block b hb).trans h
theorem Blk.new (w : World) (cs : Array Value) (t : TypeId) : Blk (w.alloc (.cells cs t)) w.heap.size cs t := by
  show (w.heap.push _)[w.heap.size]? = _
  exact Array.getElem?_push_size
theorem Blk.alloc {w : World} {b : Nat} {cs : Array Value} {t : TypeId} (h : Blk w b cs t) (o : Obj) : Blk (w.alloc o) b cs t := h.kept ((Kept.refl w).alloc o)
theorem Blk.drew {w : World} {b : Nat} {cs : Array Value} {t : TypeId} (h : Blk w b cs t) : Blk w.drew b cs t := h
theorem Blk.cell {w : World} {b : Nat} {cs : Array Value} {t : TypeId} (h : Blk w b cs t) (i : Nat) : w.cell? ⟨b, i, none⟩ = cs[i]? := by
  unfold Blk at h
  simp [World.cell?, h]
theorem Blk.free {w : World} {b : Nat} {cs : Array Value} {t : TypeId} (h : Blk w b cs t) (i : Nat) : w.frozen? ⟨b, i, none⟩ = false := by
  unfold Blk at h
  simp [World.frozen?, h]
theorem Blk.set {w : World} {b : Nat} {cs : Array Value} {t : TypeId} (h : Blk w b cs t) (i : Nat) (u : Value) : Blk (w.setCell ⟨b, i, none⟩ u) b (cs.setIfInBounds i u) t := by
  obtain ⟨hlt, hk⟩ := Array.getElem?_eq_some_iff.1 h
  show (w.heap.modify b _)[b]? = _
  rw [Array.getElem?_eq_getElem (by rw [Array.size_modify]; exact hlt), Array.getElem_modify_self, hk]
  rfl
theorem Blk.other {w : World} {b b' : Nat} {cs : Array Value} {t : TypeId} (h : Blk w b cs t) (hne : b ≠ b') (o : Nat) (u : Value) : Blk (w.setCell ⟨b', o, none⟩ u) b cs t :=
  (Below.heap_setCell w _ u b hne).trans h
theorem Blk.grown {w w' : World} {b : Nat} {cs : Array Value} {t : TypeId} {row : Option Nat} (h : Blk w b cs t) (g : w.grownBy w' row) (hne : some b ≠ row) : Blk w' b cs t := (g.block b h.lt hne).trans h
theorem blk_own {β : Type} (B : Nat) (t : TypeId) (f : β → Array Value) : Own (fun s W => Blk W B (f s) t) := fun s X Y row hs hg hrow =>
  Blk.grown hs hg (fun e' => by obtain ⟨o, ho, hc⟩ := hrow B e'.symm; rw [show X.heap[B]? = _ from hs] at ho; cases ho; cases hc)
theorem blk_putObj {w : World} {b D : Nat} {cs : Array Value} {t : TypeId} (h : Blk w b cs t) (o o' : Obj) (hD : w.heap[D]? = some o) (hc : o.isCells = false) : Blk (w.putObj D o') b cs t :=
  Blk.grown h (grownBy_putObj' _ D o') (fun e => by
    have e2 : b = D := by injection e
    subst e2
    rw [show w.heap[b]? = _ from h] at hD
    cases hD
    cases hc)
end Go.Proofs.YtblaphkaklocfaaGreatDoor

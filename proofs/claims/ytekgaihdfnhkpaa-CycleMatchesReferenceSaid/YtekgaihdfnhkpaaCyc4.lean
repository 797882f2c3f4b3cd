/- Contracts: package cycle: the functions that each calls: Next, Histogram, Earliest. -/
import Derived.Test.YtekgaihdfnhkpaaCyc3
set_option linter.unusedSimpArgs false
set_option linter.unusedVariables false
set_option linter.unusedSectionVars false
namespace Go.Proofs.Ytekgaihdfnhkpaa
open Go.ChangeShapes Go.WideShapes Go.ChangeAt Go.RowKit
set_option maxHeartbeats 1000000
set_option maxRecDepth 20000

theorem visitN_of (m d y i x : Int) (bm bd bo : Nat) (w wr : World) (hm : Var1 wr bm (.int .i64 m) 3) (hd : Var1 wr bd (.int .i64 d) 3) (ho : Var1 wr bo (.int .i64 x) 3)
    (h1 : bm ≠ bo) (h2 : bd ≠ bo) (hk : Kept w wr) (hwo : w.heap.size ≤ bo) :
    Calls Try.prog 24 #[.int .i64 y, .int .i64 i, .pointer (some ⟨bm, 0, none⟩), .pointer (some ⟨bd, 0, none⟩), .pointer (some ⟨bo, 0, none⟩)] wr fun e w' =>
      e = .returned (.bool (decide ((if (exB m d && decide (i = (m - 3) * 31 + d - 22)) = true then y else x) = 0))) ∧
      Var1 w' bm (.int .i64 m) 3 ∧ Var1 w' bd (.int .i64 d) 3 ∧ Var1 w' bo (.int .i64 (if (exB m d && decide (i = (m - 3) * 31 + d - 22)) = true then y else x)) 3 ∧ Kept w w' := by
  have cm := cell_of_one hm
  have cd := cell_of_one hd
  have co := cell_of_one ho
  have fo := free_of_one ho
  have KE := Lib.hid (fun w => exists_any m d w)
  by_cases hex : exB m d = true
  · have KI := Lib.hid (fun w => index_any m d w (ex_bounds m d hex).1 (ex_bounds m d hex).2)
    rw [hex] at KE ⊢
    generalize hj : (m - 3) * 31 + d - 22 = j at *
    clear hj hex
    by_cases hij : i = j
    · subst hij
      rw [if_pos (by simp)]
      by_cases hy : y = 0
      · subst hy
        go_enter Try.func24, Try.ntmps24
        go_wp2_with fail
        (go_at_call 25; (with_reducible refine (KE.out _).mono ?_); rintro e w1 ⟨rfl, rfl⟩)
        go_wp2_with fail
        (go_at_call 26; (with_reducible refine (KI.out _).mono ?_); rintro e w1 ⟨rfl, rfl⟩)
        go_wp2
        go_ret
        exact ⟨by simp, hm.other h1 _, hd.other h2 _, ho.set _, hk.setCell hwo _⟩
      · go_enter Try.func24, Try.ntmps24
        go_wp2_with fail
        (go_at_call 25; (with_reducible refine (KE.out _).mono ?_); rintro e w1 ⟨rfl, rfl⟩)
        go_wp2_with fail
        (go_at_call 26; (with_reducible refine (KI.out _).mono ?_); rintro e w1 ⟨rfl, rfl⟩)
        go_wp2
        go_ret
        exact ⟨by simp [hy], hm.other h1 _, hd.other h2 _, ho.set _, hk.setCell hwo _⟩
    · rw [if_neg (by simpa using hij)]
      by_cases hy : x = 0
      · subst hy
        go_enter Try.func24, Try.ntmps24
        go_wp2_with fail
        (go_at_call 25; (with_reducible refine (KE.out _).mono ?_); rintro e w1 ⟨rfl, rfl⟩)
        go_wp2_with fail
        (go_at_call 26; (with_reducible refine (KI.out _).mono ?_); rintro e w1 ⟨rfl, rfl⟩)
        go_wp2
        go_ret
        exact ⟨by simp, hm, hd, ho, hk⟩
      · go_enter Try.func24, Try.ntmps24
        go_wp2_with fail
        (go_at_call 25; (with_reducible refine (KE.out _).mono ?_); rintro e w1 ⟨rfl, rfl⟩)
        go_wp2_with fail
        (go_at_call 26; (with_reducible refine (KI.out _).mono ?_); rintro e w1 ⟨rfl, rfl⟩)
        go_wp2
        go_ret
        exact ⟨by simp [hy], hm, hd, ho, hk⟩
  · have e : exB m d = false := by simpa using hex
    rw [e] at KE ⊢
    rw [if_neg (by simp)]
    clear e hex
    by_cases hy : x = 0
    · subst hy
      go_enter Try.func24, Try.ntmps24
      go_wp2_with fail
      (go_at_call 25; (with_reducible refine (KE.out _).mono ?_); rintro e w1 ⟨rfl, rfl⟩)
      go_wp2
      go_ret
      exact ⟨by simp, hm, hd, ho, hk⟩
    · go_enter Try.func24, Try.ntmps24
      go_wp2_with fail
      (go_at_call 25; (with_reducible refine (KE.out _).mono ?_); rintro e w1 ⟨rfl, rfl⟩)
      go_wp2
      go_ret
      exact ⟨by simp [hy], hm, hd, ho, hk⟩
theorem visitE_of (y i x a : Int) (ba bb : Nat) (w wr : World) (ha : Var1 wr ba (.int .i64 a) 3) (hb : Var1 wr bb (.int .i64 x) 3)
    (h1 : ba ≠ bb) (hk : Kept w wr) (hwa : w.heap.size ≤ ba) (hwb : w.heap.size ≤ bb) :
    Calls Try.prog 32 #[.int .i64 y, .int .i64 i, .pointer (some ⟨ba, 0, none⟩), .pointer (some ⟨bb, 0, none⟩)] wr fun e w' =>
      e = .returned (.bool (decide (0 < (if i < a then (y, i) else (x, a)).2))) ∧
      Var1 w' ba (.int .i64 (if i < a then (y, i) else (x, a)).2) 3 ∧ Var1 w' bb (.int .i64 (if i < a then (y, i) else (x, a)).1) 3 ∧ Kept w w' := by
  have ca := cell_of_one ha
  have fa := free_of_one ha
  have cb := cell_of_one hb
  have fb := free_of_one hb
  by_cases hia : i < a
  · rw [if_pos hia]
    by_cases hi : 0 < i
    · go_enter Try.func32, Try.ntmps32
      go_wp2
      go_ret
      exact ⟨by simp [hi], (ha.other h1 _).set _, (hb.set _).other h1.symm _, (hk.setCell hwb _).setCell hwa _⟩
    · go_enter Try.func32, Try.ntmps32
      go_wp2
      go_ret
      exact ⟨by simp [hi], (ha.other h1 _).set _, (hb.set _).other h1.symm _, (hk.setCell hwb _).setCell hwa _⟩
  · rw [if_neg hia]
    by_cases hi : 0 < a
    · go_enter Try.func32, Try.ntmps32
      go_wp2
      go_ret
      exact ⟨by simp [hi], ha, hb, hk⟩
    · go_enter Try.func32, Try.ntmps32
      go_wp2
      go_ret
      exact ⟨by simp [hi], ha, hb, hk⟩
/-- The cells of a histogram. -/
def hCells (h : Nat → Int) : List Value := (List.range 35).map fun j => .int .i64 (h j)
def HBlk (w : World) (b : Nat) (h : Nat → Int) : Prop := w.heap[b]? = some (.cells (hCells h).toArray 42 (0, 0))
theorem HBlk.kept {w w' : World} {b : Nat} {h : Nat → Int} (q : HBlk w b h) (k : Kept w w') : HBlk w' b h := (k.block b (lt_of_block q)).trans q
theorem hCells_at (h : Nat → Int) (i : Nat) (hi : i < 35) : (hCells h)[i]? = some (.int .i64 (h i)) := by simp [hCells, hi]
theorem HBlk.cell {w : World} {b : Nat} {h : Nat → Int} (q : HBlk w b h) (i : Nat) (hi : i < 35) : w.cell? ⟨b, i, none⟩ = some (.int .i64 (h i)) ∧ w.frozen? ⟨b, i, none⟩ = false := by
  unfold HBlk at q
  simp [World.cell?, World.frozen?, q, hCells_at h i hi]
theorem hCells_set (h : Nat → Int) (i : Nat) (x : Int) (hi : i < 35) : (hCells h).set i (.int .i64 x) = hCells (fun j => if j = i then x else h j) := by
  apply List.ext_getElem (by simp [hCells])
  intro j h1 h2
  by_cases e : i = j
  · subst e; simp [hCells]
  · rw [List.getElem_set_ne e]
    have : ¬ j = i := fun g => e g.symm
    simp [hCells, this]
theorem HBlk.set {w : World} {b : Nat} {h : Nat → Int} (q : HBlk w b h) (i : Nat) (x : Int) (hi : i < 35) : HBlk (w.setCell ⟨b, i, none⟩ (.int .i64 x)) b (fun j => if j = i then x else h j) := by
  obtain ⟨hlt, hk⟩ := Array.getElem?_eq_some_iff.1 q
  show (w.heap.modify b _)[b]? = _
  rw [Array.getElem?_eq_getElem (by rw [Array.size_modify]; exact hlt), Array.getElem_modify_self, hk, ← hCells_set h i x hi]
  simp
theorem visitH_of (y i : Int) (b : Nat) (h : Nat → Int) (w wr : World) (q : HBlk wr b h) (hi : 0 ≤ i ∧ i ≤ 34) (hh : ∀ j, 0 ≤ h j ∧ h j ≤ 10000) (hk : Kept w wr) (hw : w.heap.size ≤ b) :
    Calls Try.prog 34 #[.int .i64 y, .int .i64 i, .pointer (some ⟨b, 0, none⟩)] wr fun e w' =>
      e = .returned (.bool true) ∧ HBlk w' b (fun j => if j = i.toNat then h j + 1 else h j) ∧ Kept w w' := by
  obtain ⟨n, rfl⟩ : ∃ n : Nat, i = n := ⟨i.toNat, by omega⟩
  obtain ⟨c1, f1⟩ := q.cell n (by omega)
  have hb := hh n
  have e : (fun j => if j = (n : Int).toNat then h j + 1 else h j) = fun j => if j = n then h n + 1 else h j := by
    funext j
    simp only [Int.toNat_natCast]
    by_cases g : j = n
    · subst g; simp
    · simp [g]
  rw [e]
  have HS := Lib.hid (q.set n (h n + 1) (by omega))
  have hn : n < 35 := by omega
  clear q e hh
  generalize h n = x at *
  go_enter Try.func34, Try.ntmps34
  go_wp2
  go_ret
  exact ⟨rfl, HS.out, hk.setCell hw _⟩
end Go.Proofs.Ytekgaihdfnhkpaa

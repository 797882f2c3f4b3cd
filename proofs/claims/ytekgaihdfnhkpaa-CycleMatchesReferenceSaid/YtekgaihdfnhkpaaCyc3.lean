/- Contracts: package cycle: the functions that each calls; Years. -/
import Derived.Test.YtekgaihdfnhkpaaCyc2
import Derived.Maps.AppendAt
import Derived.OneCell
set_option linter.unusedSimpArgs false
set_option linter.unusedVariables false
set_option linter.unusedSectionVars false
namespace Go.Proofs.Ytekgaihdfnhkpaa
open Go.ChangeShapes Go.WideShapes Go.ChangeAt Go.RowKit
set_option maxHeartbeats 1000000
set_option maxRecDepth 20000

theorem info_int : (Try.prog.info? 3).map (fun i => (i.zero, i.size, i.bytes)) = some (some (.int .i64 0), 1, 8) := by kernel_rfl
/-- A variable of one cell lies in the block b, and may be written. -/
def Var1 (w : World) (b : Nat) (v : Value) (t : TypeId) : Prop := w.heap[b]? = some (.cells #[v] t (0, 0))
theorem Var1.kept {w w' : World} {b : Nat} {v : Value} {t : TypeId} (h : Var1 w b v t) (k : Kept w w') : Var1 w' b v t := (k.block b (lt_of_block h)).trans h
theorem Var1.new (w : World) (v : Value) (t : TypeId) : Var1 (w.alloc (.cells #[v] t)) w.heap.size v t := by
  show (w.heap.push _)[w.heap.size]? = _
  exact Array.getElem?_push_size
theorem Var1.alloc {w : World} {b : Nat} {v : Value} {t : TypeId} (h : Var1 w b v t) (o : Obj) : Var1 (w.alloc o) b v t := h.kept ((Kept.refl w).alloc o)
theorem Var1.set {w : World} {b : Nat} {v : Value} {t : TypeId} (h : Var1 w b v t) (u : Value) : Var1 (w.setCell ⟨b, 0, none⟩ u) b u t := one_setCell h
theorem Var1.other {w : World} {b b' o : Nat} {v : Value} {t : TypeId} (h : Var1 w b v t) (hne : b ≠ b') (u : Value) : Var1 (w.setCell ⟨b', o, none⟩ u) b v t :=
  (Below.heap_setCell w _ u b hne).trans h
theorem Var1.grown {w w' : World} {b : Nat} {v : Value} {t : TypeId} {row : Option Nat} (h : Var1 w b v t) (g : w.grownBy w' row) (hne : some b ≠ row) : Var1 w' b v t := (g.block b (lt_of_block h) hne).trans h
theorem owns_kept {w w' : World} {b n s : Nat} {e : TypeId} {v : Value} {xs : List Value} (h : w.ownsRow b e s v n xs) (k : Kept w w') : w'.ownsRow b e s v n xs := by
  obtain ⟨h1, h2 | ⟨g, cap, cur, h3, h4, h5, h6⟩⟩ := h
  · exact ⟨h1, .inl h2⟩
  · exact ⟨h1, .inr ⟨g, cap, cur, h3, h4, (k.block g (lt_of_block h5)).trans h5, h6⟩⟩
theorem owns_form {w : World} {b n s : Nat} {e : TypeId} {v : Value} {xs : List Value} (h : w.ownsRow b e s v n xs) : ∃ o c, v = .slice o n c := by
  obtain ⟨_, ⟨rfl, rfl⟩ | ⟨g, cap, cur, rfl, _⟩⟩ := h
  · exact ⟨none, 0, rfl⟩
  · exact ⟨some ⟨g, 0, none⟩, cap, rfl⟩
theorem ints_of_owns {w : World} {b : Nat} {e : TypeId} {v : Value} {L : List Int} (h : w.ownsRow b e 1 v L.length (L.map (Value.int .i64))) :
    ∃ o c, v = .slice o L.length c ∧ IsInts w o L := by
  have hc := h
  obtain ⟨h1, ⟨rfl, h3⟩ | ⟨g, cap, cur, rfl, h4, h5, h6⟩⟩ := h
  · exact ⟨none, 0, by rw [h3], fun j hj => by omega⟩
  · refine ⟨some ⟨g, 0, none⟩, cap, rfl, fun j hj => ?_⟩
    have a1 := hc.cells (g := g) rfl j (.int .i64 L[j]!) (by simp [hj])
    rw [Addr.add_lit, Nat.zero_add] at a1
    exact ⟨g, rfl, a1⟩
theorem cell_one_new (w : World) (x : Value) (t : TypeId) : ∀ j u, [x][j]? = some u → (w.alloc (.cells #[x] t)).cell? ((⟨w.heap.size, 0, none⟩ : Addr).add j) = some u := by
  intro j u hj
  match j, hj with
  | 0, hj => simp at hj; subst hj; simp [Addr.add]
theorem ex_bounds (m d : Int) (h : exB m d = true) : (0 ≤ m ∧ m ≤ 100) ∧ (0 ≤ d ∧ d ≤ 100) := by
  unfold exB at h
  simp only [decide_eq_true_eq] at h
  omega
set_option maxHeartbeats 2000000 in
theorem visitY_of (m d y i : Int) (bm bd bo B n : Nat) (v : Value) (L : List Int) (w wr : World) (hm : Var1 wr bm (.int .i64 m) 3) (hd : Var1 wr bd (.int .i64 d) 3) (ho : Var1 wr bo v 31)
    (hown : wr.ownsRow B 3 1 v L.length (L.map (Value.int .i64))) (hn : L.length ≤ 10000) (hbo : bo < B) (hbm : bm < B) (hbd : bd < B) (h1 : bm ≠ bo) (h2 : bd ≠ bo) (hB : B ≤ wr.heap.size) (hk : Kept w wr) (hwo : w.heap.size ≤ bo) :
    Calls Try.prog 29 #[.int .i64 y, .int .i64 i, .pointer (some ⟨bm, 0, none⟩), .pointer (some ⟨bd, 0, none⟩), .pointer (some ⟨bo, 0, none⟩)] wr fun e w' => e = .returned (.bool true) ∧ ∃ v',
      Var1 w' bm (.int .i64 m) 3 ∧ Var1 w' bd (.int .i64 d) 3 ∧ Var1 w' bo v' 31 ∧
      (w'.ownsRow B 3 1 v' (if (exB m d && decide (i = (m - 3) * 31 + d - 22)) = true then L ++ [y] else L).length ((if (exB m d && decide (i = (m - 3) * 31 + d - 22)) = true then L ++ [y] else L).map (Value.int .i64))) ∧ Kept w w' := by
  have cm := cell_of_one hm
  have cd := cell_of_one hd
  have co := cell_of_one ho
  have fo := free_of_one ho
  obtain ⟨i0, hi, hz0, hz1, hz2⟩ := info_parts info_int
  have KE := Lib.hid (fun w => exists_any m d w)
  by_cases hex : exB m d = true
  · have KI := Lib.hid (fun w => index_any m d w (ex_bounds m d hex).1 (ex_bounds m d hex).2)
    rw [hex] at KE ⊢
    generalize hj : (m - 3) * 31 + d - 22 = j at *
    clear hj hex
    by_cases hij : i = j
    · subst hij
      rw [if_pos (by simp)]
      have hown' := (hown.alloc (.cells #[.int .i64 y] 3))
      have Hm := Lib.hid hm
      have Hd := Lib.hid hd
      have Ho := Lib.hid ho
      have Hown := Lib.hid hown
      go_enter Try.func29, Try.ntmps29
      go_wp2_with fail
      (go_at_call 25; (with_reducible refine (KE.out _).mono ?_); rintro e w1 ⟨rfl, rfl⟩)
      go_wp2_with fail
      (go_at_call 26; (with_reducible refine (KI.out _).mono ?_); rintro e w1 ⟨rfl, rfl⟩)
      clear hm hd ho hown
      go_wp2_with (at_builtin; refine wpList_append_own _ rfl _ _ 31 rfl B 3 i0 (.int .i64 0) 1 8 Try.underlying31 hi hz0 hz1 hz2 rfl (by decide) _ _ _ rfl hown' ⟨wr.heap.size, 0, none⟩ 1 1 [.int .i64 y] rfl rfl ?c1 ?c2 ?c3 ?c4 ?c5 ?_)
      case c1 => exact cell_one_new wr (.int .i64 y) 3
      case c2 => simp [Value.oneCell']
      case c3 => unfold maxLen; omega
      case c4 => omega
      case c5 => simp; omega
      intro v' w1 hown1 hgrow _
      obtain ⟨o', c', rfl⟩ := owns_form hown1
      have hne : ∀ b, b < B → some b ≠ v.ownBlock := fun b hb h => by have := (Hown.out.lt b h.symm).1; omega
      have Hm1 := Lib.hid ((Hm.out.alloc _).grown hgrow (hne bm hbm))
      have Hd1 := Lib.hid ((Hd.out.alloc _).grown hgrow (hne bd hbd))
      have Ho1 := Lib.hid ((Ho.out.alloc _).grown hgrow (hne bo hbo))
      have co1 := cell_of_one Ho1.out
      have fo1 := free_of_one Ho1.out
      have Kw : Kept w w1 := Below.grown (hk.alloc (.cells #[.int .i64 y] 3)) hgrow (by simp; omega) (fun q hq => by have := (Hown.out.lt q hq).1; omega)
      have HO : Hid ((w1.setCell ⟨bo, 0, none⟩ (.slice o' (L.length + 1) c')).ownsRow B 3 1 (.slice o' (L.length + 1) c') (L ++ [y]).length ((L ++ [y]).map (Value.int .i64))) := (show _ from by
        have h : w1.ownsRow B 3 1 (.slice o' (L.length + 1) c') (L ++ [y]).length ((L ++ [y]).map (Value.int .i64)) := by simpa using hown1
        exact ownsRow_setCell_below h hbo _)
      clear hown1 hgrow hown' co fo
      go_wp2
      go_ret
      exact ⟨rfl, _, Hm1.out.other h1 _, Hd1.out.other h2 _, Ho1.out.set _, HO.out, Kw.setCell hwo _⟩
    · rw [if_neg (by simpa using hij)]
      go_enter Try.func29, Try.ntmps29
      go_wp2_with fail
      (go_at_call 25; (with_reducible refine (KE.out _).mono ?_); rintro e w1 ⟨rfl, rfl⟩)
      go_wp2_with fail
      (go_at_call 26; (with_reducible refine (KI.out _).mono ?_); rintro e w1 ⟨rfl, rfl⟩)
      go_wp2
      go_ret
      exact ⟨rfl, v, hm, hd, ho, hown, hk⟩
  · have e : exB m d = false := by simpa using hex
    rw [e] at KE ⊢
    rw [if_neg (by simp)]
    clear e hex
    go_enter Try.func29, Try.ntmps29
    go_wp2_with fail
    (go_at_call 25; (with_reducible refine (KE.out _).mono ?_); rintro e w1 ⟨rfl, rfl⟩)
    go_wp2
    go_ret
    exact ⟨rfl, v, hm, hd, ho, hown, hk⟩
end Go.Proofs.Ytekgaihdfnhkpaa

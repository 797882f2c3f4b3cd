/- Contract: reference 08: On. -/
import Derived.Test.YtennmbcimbgleaaDoorRefLab3
import Derived.Outline
set_option linter.unusedSimpArgs false
set_option linter.unusedVariables false
set_option linter.unusedSectionVars false
namespace Go.Proofs.YtennmbcimbgleaaDoor
open Go.ChangeShapes Go.WideShapes Go.ChangeAt Go.RowKit
set_option maxHeartbeats 800000

theorem owns_kept {w w' : World} {b n s : Nat} {e : TypeId} {v : Value} {xs : List Value} (h : w.ownsRow b e s v n xs) (k : Kept w w') : w'.ownsRow b e s v n xs := by
  obtain ⟨h1, h2 | ⟨g, cap, cur, h3, h4, h5, h6⟩⟩ := h
  · exact ⟨h1, .inl h2⟩
  · have hg : g < w.heap.size := by
      by_cases hk : g < w.heap.size
      · exact hk
      · have : w.heap[g]? = none := by simp; omega
        simp [this] at h5
    exact ⟨h1, .inr ⟨g, cap, cur, h3, h4, (k.block g hg).trans h5, h6⟩⟩
theorem ints_of_owns {w : World} {b : Nat} {e : TypeId} {v : Value} {L : List Int} (h : w.ownsRow b e 1 v L.length (L.map (Value.int .i64))) :
    ∃ o c, v = .slice o L.length c ∧ IsInts w o L := by
  have hc := h
  obtain ⟨h1, ⟨rfl, h3⟩ | ⟨g, cap, cur, rfl, h4, h5, h6⟩⟩ := h
  · exact ⟨none, 0, by rw [h3], fun j hj => by omega⟩
  · refine ⟨some ⟨g, 0, none⟩, cap, rfl, fun j hj => ⟨g, rfl, ?_⟩⟩
    have := hc.cells (g := g) rfl j (.int .i64 L[j]!) (by simp [hj])
    rw [Addr.add_lit, Nat.zero_add] at this
    exact this
theorem info_int : (Tryd.prog.info? 3).map (fun i => (i.zero, i.size, i.bytes)) = some (some (.int .i64 0), 1, 8) := by kernel_rfl
/-- The labels 31, 30, .., 32 - k that the day bears. -/
def gat (m d : Int) : Nat → List Int
  | 0 => []
  | k + 1 => gat m d k ++ if bears m d (31 - k) then [31 - (k : Int)] else []
theorem gat_len (m d : Int) (k : Nat) : (gat m d k).length ≤ k := by
  induction k with
  | zero => simp [gat]
  | succ k ih =>
    unfold gat
    split
    · simp; omega
    · simp; omega
theorem gat_all : ∀ m : Fin 13, ∀ d : Fin 32, Ex (m.val : Int) (d.val : Int) → gat (m.val : Int) (d.val : Int) 31 = onD (m.val : Int) (d.val : Int) := by decide +kernel
theorem gat_end (m d : Int) (h : Ex m d) : gat m d 31 = onD m d := by
  obtain ⟨h1, h2, h3, h4⟩ := id h
  have hb := mlen_bounds false m h1 h2
  have := gat_all ⟨m.toNat, by omega⟩ ⟨d.toNat, by omega⟩
  simp only [Int.toNat_of_nonneg (show 0 ≤ m by omega), Int.toNat_of_nonneg (show 0 ≤ d by omega)] at this
  exact this h
theorem gat_no (m d : Int) (h : ¬ Ex m d) (k : Nat) : gat m d k = [] := by
  induction k with
  | zero => rfl
  | succ k ih => simp [gat, ih, bears, h]
theorem gat_yes {m d : Int} {k : Nat} {l : Int} (hl : l = 31 - k) (h : bears m d l = true) : gat m d (k + 1) = gat m d k ++ [l] := by
  subst hl
  simp [gat, h]
theorem gat_not {m d : Int} {k : Nat} {l : Int} (hl : l = 31 - k) (h : bears m d l = false) : gat m d (k + 1) = gat m d k := by
  subst hl
  simp [gat, h]
theorem rOn_of (m d : Int) (w : World) :
    Calls Tryd.prog 13 #[.int .i64 m, .int .i64 d] w fun e w' => ∃ v, e = .returned v ∧ w'.ownsRow w.heap.size 3 1 v (gat m d 31).length ((gat m d 31).map (Value.int .i64)) ∧ Kept w w' := by
  have KB := Lib.hid (fun l w => rBears_of m d l w)
  have KG := Lib.hid (gat_len m d)
  obtain ⟨i0, hi, hz0, hz1, hz2⟩ := info_parts info_int
  generalize hB : w.heap.size = B at *
  go_enter Tryd.func13, Tryd.ntmps13
  go_wp2
  go_loopw [5, 6] (fun v l wr => ∃ k : Nat, k ≤ 31 ∧ l = .int .i64 (31 - k) ∧ wr.ownsRow B 3 1 v (gat m d k).length ((gat m d k).map (Value.int .i64)) ∧ Kept w wr) (fun _ l _ => (intOf l).toNat)
  case atStart => exact ⟨0, by omega, rfl, World.ownsRow_nil _ _ _ _, Kept.refl _⟩
  case round =>
    obtain ⟨k, hk, rfl, hown, hkw⟩ := hrel
    have hB1 : B ≤ wr.heap.size := by have := hkw.size; omega
    by_cases hk1 : k = 31
    · subst hk1
      go_wp2
      go_ret
      exact ⟨_, rfl, hown, hkw⟩
    · generalize hl : 31 - (k : Int) = l at *
      have h1 : 1 ≤ l ∧ l ≤ 31 := by omega
      have HL := Lib.hid hl
      clear hl
      have KX := Lib.hid (fun w => KB.out l w)
      have KY := Lib.hid (KG.out k)
      cases hb : bears m d l with
      | false =>
        rw [hb] at KX
        go_wp2_with (go_at_call 15; refine (KX.out _).mono ?_; rintro e w1 ⟨rfl, hk1⟩)
        go_roundw
        case rel => exact ⟨k + 1, by omega, by have := HL.out; go_num, by rw [gat_not HL.out.symm hb]; exact owns_kept hown hk1, hkw.trans hk1⟩
        case measure => simp [intOf]; omega
      | true =>
        rw [hb] at KX
        go_wp2_with (first | (go_at_call 15; refine (KX.out _).mono ?_; rintro e w1 ⟨rfl, hq1⟩; have hown1 := owns_kept hown hq1; have hq2 := hq1.size) | (at_builtin; refine wpList_append_own _ rfl _ _ 26 rfl B 3 i0 (.int .i64 0) 1 8 Tryd.underlying26 hi hz0 hz1 hz2 rfl (by decide) _ _ _ rfl (hown1.alloc _) ⟨w1.heap.size, 0, none⟩ 1 1 [.int .i64 l] rfl rfl ?c1 ?c2 ?c3 ?c4 ?c5 ?_))
        case c1 =>
          intro j u hj
          match j, hj with
          | 0, hj => simp at hj; subst hj; simp [Addr.add]
        case c2 => intro u hu; simp at hu; subst hu; rfl
        case c3 => have := KY.out; unfold maxLen; omega
        case c4 => have := KY.out; omega
        case c5 => simp; omega
        · intro v' w2 hown' hgrow _
          have hk2 : Kept w w2 := by
            have hw : Kept w w1 := hkw.trans hq1
            exact Below.grown (Below.alloc hw hw.size _) hgrow (by simp; omega) (fun j hj => by have := (hown1.lt j hj).1; omega)
          clear hgrow hown hown1
          go_wp2
          go_roundw
          case rel => exact ⟨k + 1, by omega, by have := HL.out; go_num, by rw [gat_yes HL.out.symm hb]; simpa using hown', hk2⟩
          case measure => simp [intOf]; omega
end Go.Proofs.YtennmbcimbgleaaDoor

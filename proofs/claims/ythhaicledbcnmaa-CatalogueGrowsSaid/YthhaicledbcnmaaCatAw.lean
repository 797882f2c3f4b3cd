/- The fixed examples of the laws of layer 17. -/
import Derived.Test.YthhaicledbcnmaaFnd
set_option linter.unusedSimpArgs false
set_option linter.unusedVariables false
set_option linter.unusedSectionVars false
namespace Go.Proofs.Ythhaicledbcnmaa
open Go.ChangeShapes Go.WideShapes Go.ChangeAt Go.RowKit
set_option maxHeartbeats 4000000
set_option maxRecDepth 20000

theorem aw_i (s : ByteArray) (b : Bool) (h : idB s = b) (w : World) : Calls Try.prog 8 #[.string s] w fun e w' => e = .returned (.bool b) ∧ Kept w w' := by
  subst h
  exact Ident_any s w
def r0 : Rec := ⟨⟨#[120]⟩, 1, 9, 1, 1, 1, 0, 0, 0⟩
theorem r0_ok : r0.ok := by unfold Rec.ok r0 maxLen; decide
theorem aw_s (w : World) : Calls Try.prog 10 #[.agg #[.string ⟨#[120]⟩, .int .i64 1, .int .i64 9, .int .i64 1, .int .i64 1, .int .i64 1, .int .i64 0, .int .i64 0, .int .i64 0]] w fun e w' => e = .returned (.bool true) ∧ Kept w w' := by
  have h := Season_any ⟨#[120]⟩ 1 9 1 1 1 0 0 0 w (by decide)
  rwa [show seaB ⟨#[120]⟩ 1 9 1 1 1 0 0 0 = true from by decide +kernel] at h
theorem aw_f (w : World) : Calls Try.prog 12 #[.agg #[.string ⟨#[]⟩, .int .i64 0, .int .i64 0, .int .i64 0, .int .i64 0, .int .i64 0, .int .i64 0, .int .i64 0, .int .i64 0]] w fun e w' => e = .returned (.bool false) ∧ Kept w w' := by
  have h := Feast_any ⟨#[]⟩ 0 0 0 0 0 0 0 0 w (by decide)
  rwa [show feaB ⟨#[]⟩ 0 0 0 0 0 0 0 0 = false from by decide +kernel] at h
theorem aw_c1 (o : Option Addr) (q : Nat) (w : World) (h : IsRecs w o [r0]) : Calls Try.prog 14 #[.agg #[.int .i64 0, .slice o 1 q, .slice none 0 0]] w fun e w' => e = .returned (.int .i64 0) ∧ Kept w w' := by
  have h := CCheck_any 0 o none q 0 [r0] [] w h (isRecs_nil _ _) (fun r hr => by simp at hr; subst hr; exact r0_ok) (fun r hr => by simp at hr)
  rwa [show catB 0 [r0] [] = true from by decide +kernel] at h
theorem aw_c2 (o : Option Addr) (q : Nat) (w : World) (h : IsRecs w o [r0, r0]) : Calls Try.prog 14 #[.agg #[.int .i64 0, .slice o 2 q, .slice none 0 0]] w fun e w' => e = .returned (.int .i64 4) ∧ Kept w w' := by
  have h := CCheck_any 0 o none q 0 [r0, r0] [] w h (isRecs_nil _ _) (fun r hr => by simp at hr; subst hr; exact r0_ok) (fun r hr => by simp at hr)
  rwa [show catB 0 [r0, r0] [] = false from by decide +kernel] at h
theorem aw_c3 (w : World) : Calls Try.prog 14 #[.agg #[.int .i64 0, .slice none 0 0, .slice none 0 0]] w fun e w' => e = .returned (.int .i64 4) ∧ Kept w w' := by
  have h := CCheck_any 0 none none 0 0 [] [] w (isRecs_nil _ _) (isRecs_nil _ _) (fun r hr => by simp at hr) (fun r hr => by simp at hr)
  rwa [show catB 0 [] [] = false from by decide +kernel] at h
theorem aw_fd (o : Option Addr) (q : Nat) (w : World) : Calls Try.prog 16 #[.agg #[.int .i64 0, .slice o 1 q, .slice none 0 0], .string ⟨#[120]⟩] w fun e w' => e = .returned (.int .i64 (-1)) ∧ Kept w w' :=
  Find_any 0 o none q 0 [r0] [] ⟨#[120]⟩ w (isRecs_nil _ _) (by decide)
theorem recs_here (w : World) (T : TypeId) : IsRecs (w.alloc (.cells #[.string ⟨#[120]⟩, .int .i64 1, .int .i64 9, .int .i64 1, .int .i64 1, .int .i64 1, .int .i64 0, .int .i64 0, .int .i64 0] T)) (some ⟨w.heap.size, 0, none⟩) [r0] := by
  intro j hj
  obtain rfl : j = 0 := by simp at hj; omega
  refine ⟨_, 0, rfl, fun i u hu => ?_⟩
  rw [Nat.zero_mul, Nat.zero_add, cell_here, ← hu]
  simp [Rec.vals, r0]
theorem recs_here2 (w : World) (T : TypeId) : IsRecs (w.alloc (.cells #[.string ⟨#[120]⟩, .int .i64 1, .int .i64 9, .int .i64 1, .int .i64 1, .int .i64 1, .int .i64 0, .int .i64 0, .int .i64 0, .string ⟨#[120]⟩, .int .i64 1, .int .i64 9, .int .i64 1, .int .i64 1, .int .i64 1, .int .i64 0, .int .i64 0, .int .i64 0] T)) (some ⟨w.heap.size, 0, none⟩) [r0, r0] := by
  intro j hj
  refine ⟨_, 0, rfl, fun i u hu => ?_⟩
  have hi : i < 9 := by
    have := (List.getElem?_eq_some_iff.1 hu).1
    simpa [Rec.vals] using this
  have hj2 : j = 0 ∨ j = 1 := by simp at hj; omega
  rw [Nat.zero_add, cell_here]
  rcases hj2 with rfl | rfl
  · rw [← hu]
    rcases (show i = 0 ∨ i = 1 ∨ i = 2 ∨ i = 3 ∨ i = 4 ∨ i = 5 ∨ i = 6 ∨ i = 7 ∨ i = 8 by omega) with rfl | rfl | rfl | rfl | rfl | rfl | rfl | rfl | rfl <;> rfl
  · rw [← hu]
    rcases (show i = 0 ∨ i = 1 ∨ i = 2 ∨ i = 3 ∨ i = 4 ∨ i = 5 ∨ i = 6 ∨ i = 7 ∨ i = 8 by omega) with rfl | rfl | rfl | rfl | rfl | rfl | rfl | rfl | rfl <;> rfl
theorem blk_new (w : World) (o : Obj) : (w.alloc o).heap[w.heap.size]? = some o := by
  show (w.heap.push o)[w.heap.size]? = _
  exact Array.getElem?_push_size
theorem blk_old (w : World) (o : Obj) {b : Nat} {x : Obj} (h : w.heap[b]? = some x) : (w.alloc o).heap[b]? = some x := (((Kept.refl w).alloc o).block b (Array.getElem?_eq_some_iff.1 h).1).trans h
theorem aw_world (w : World) : Kept w (((((w.alloc (.cells #[.string ⟨#[120]⟩, .int .i64 1, .int .i64 9, .int .i64 1, .int .i64 1, .int .i64 1, .int .i64 0, .int .i64 0, .int .i64 0] 29)).alloc (.cells #[.string ⟨#[120]⟩, .int .i64 1, .int .i64 9, .int .i64 1, .int .i64 1, .int .i64 1, .int .i64 0, .int .i64 0, .int .i64 0] 29)).alloc (.cells #[.int .i64 0, .slice (some ⟨w.heap.size + 1, 0, none⟩) 1 1, .slice none 0 0] 25)).alloc (.cells #[.string ⟨#[120]⟩, .int .i64 1, .int .i64 9, .int .i64 1, .int .i64 1, .int .i64 1, .int .i64 0, .int .i64 0, .int .i64 0, .string ⟨#[120]⟩, .int .i64 1, .int .i64 9, .int .i64 1, .int .i64 1, .int .i64 1, .int .i64 0, .int .i64 0, .int .i64 0] 29)).alloc (.cells #[.int .i64 0, .slice (some ⟨w.heap.size + 1 + 1 + 1, 0, none⟩) 2 2, .slice none 0 0] 25)) ∧ (((((w.alloc (.cells #[.string ⟨#[120]⟩, .int .i64 1, .int .i64 9, .int .i64 1, .int .i64 1, .int .i64 1, .int .i64 0, .int .i64 0, .int .i64 0] 29)).alloc (.cells #[.string ⟨#[120]⟩, .int .i64 1, .int .i64 9, .int .i64 1, .int .i64 1, .int .i64 1, .int .i64 0, .int .i64 0, .int .i64 0] 29)).alloc (.cells #[.int .i64 0, .slice (some ⟨w.heap.size + 1, 0, none⟩) 1 1, .slice none 0 0] 25)).alloc (.cells #[.string ⟨#[120]⟩, .int .i64 1, .int .i64 9, .int .i64 1, .int .i64 1, .int .i64 1, .int .i64 0, .int .i64 0, .int .i64 0, .string ⟨#[120]⟩, .int .i64 1, .int .i64 9, .int .i64 1, .int .i64 1, .int .i64 1, .int .i64 0, .int .i64 0, .int .i64 0] 29)).alloc (.cells #[.int .i64 0, .slice (some ⟨w.heap.size + 1 + 1 + 1, 0, none⟩) 2 2, .slice none 0 0] 25)).heap[w.heap.size]? = some (.cells #[.string ⟨#[120]⟩, .int .i64 1, .int .i64 9, .int .i64 1, .int .i64 1, .int .i64 1, .int .i64 0, .int .i64 0, .int .i64 0] 29 (0, 0)) ∧
    (((((w.alloc (.cells #[.string ⟨#[120]⟩, .int .i64 1, .int .i64 9, .int .i64 1, .int .i64 1, .int .i64 1, .int .i64 0, .int .i64 0, .int .i64 0] 29)).alloc (.cells #[.string ⟨#[120]⟩, .int .i64 1, .int .i64 9, .int .i64 1, .int .i64 1, .int .i64 1, .int .i64 0, .int .i64 0, .int .i64 0] 29)).alloc (.cells #[.int .i64 0, .slice (some ⟨w.heap.size + 1, 0, none⟩) 1 1, .slice none 0 0] 25)).alloc (.cells #[.string ⟨#[120]⟩, .int .i64 1, .int .i64 9, .int .i64 1, .int .i64 1, .int .i64 1, .int .i64 0, .int .i64 0, .int .i64 0, .string ⟨#[120]⟩, .int .i64 1, .int .i64 9, .int .i64 1, .int .i64 1, .int .i64 1, .int .i64 0, .int .i64 0, .int .i64 0] 29)).alloc (.cells #[.int .i64 0, .slice (some ⟨w.heap.size + 1 + 1 + 1, 0, none⟩) 2 2, .slice none 0 0] 25)).heap[w.heap.size + 1 + 1]? = some (.cells #[.int .i64 0, .slice (some ⟨w.heap.size + 1, 0, none⟩) 1 1, .slice none 0 0] 25 (0, 0)) ∧
    (((((w.alloc (.cells #[.string ⟨#[120]⟩, .int .i64 1, .int .i64 9, .int .i64 1, .int .i64 1, .int .i64 1, .int .i64 0, .int .i64 0, .int .i64 0] 29)).alloc (.cells #[.string ⟨#[120]⟩, .int .i64 1, .int .i64 9, .int .i64 1, .int .i64 1, .int .i64 1, .int .i64 0, .int .i64 0, .int .i64 0] 29)).alloc (.cells #[.int .i64 0, .slice (some ⟨w.heap.size + 1, 0, none⟩) 1 1, .slice none 0 0] 25)).alloc (.cells #[.string ⟨#[120]⟩, .int .i64 1, .int .i64 9, .int .i64 1, .int .i64 1, .int .i64 1, .int .i64 0, .int .i64 0, .int .i64 0, .string ⟨#[120]⟩, .int .i64 1, .int .i64 9, .int .i64 1, .int .i64 1, .int .i64 1, .int .i64 0, .int .i64 0, .int .i64 0] 29)).alloc (.cells #[.int .i64 0, .slice (some ⟨w.heap.size + 1 + 1 + 1, 0, none⟩) 2 2, .slice none 0 0] 25)).heap[w.heap.size + 1 + 1 + 1 + 1]? = some (.cells #[.int .i64 0, .slice (some ⟨w.heap.size + 1 + 1 + 1, 0, none⟩) 2 2, .slice none 0 0] 25 (0, 0)) ∧
    IsRecs (((((w.alloc (.cells #[.string ⟨#[120]⟩, .int .i64 1, .int .i64 9, .int .i64 1, .int .i64 1, .int .i64 1, .int .i64 0, .int .i64 0, .int .i64 0] 29)).alloc (.cells #[.string ⟨#[120]⟩, .int .i64 1, .int .i64 9, .int .i64 1, .int .i64 1, .int .i64 1, .int .i64 0, .int .i64 0, .int .i64 0] 29)).alloc (.cells #[.int .i64 0, .slice (some ⟨w.heap.size + 1, 0, none⟩) 1 1, .slice none 0 0] 25)).alloc (.cells #[.string ⟨#[120]⟩, .int .i64 1, .int .i64 9, .int .i64 1, .int .i64 1, .int .i64 1, .int .i64 0, .int .i64 0, .int .i64 0, .string ⟨#[120]⟩, .int .i64 1, .int .i64 9, .int .i64 1, .int .i64 1, .int .i64 1, .int .i64 0, .int .i64 0, .int .i64 0] 29)).alloc (.cells #[.int .i64 0, .slice (some ⟨w.heap.size + 1 + 1 + 1, 0, none⟩) 2 2, .slice none 0 0] 25)) (some ⟨w.heap.size + 1, 0, none⟩) [r0] ∧ IsRecs (((((w.alloc (.cells #[.string ⟨#[120]⟩, .int .i64 1, .int .i64 9, .int .i64 1, .int .i64 1, .int .i64 1, .int .i64 0, .int .i64 0, .int .i64 0] 29)).alloc (.cells #[.string ⟨#[120]⟩, .int .i64 1, .int .i64 9, .int .i64 1, .int .i64 1, .int .i64 1, .int .i64 0, .int .i64 0, .int .i64 0] 29)).alloc (.cells #[.int .i64 0, .slice (some ⟨w.heap.size + 1, 0, none⟩) 1 1, .slice none 0 0] 25)).alloc (.cells #[.string ⟨#[120]⟩, .int .i64 1, .int .i64 9, .int .i64 1, .int .i64 1, .int .i64 1, .int .i64 0, .int .i64 0, .int .i64 0, .string ⟨#[120]⟩, .int .i64 1, .int .i64 9, .int .i64 1, .int .i64 1, .int .i64 1, .int .i64 0, .int .i64 0, .int .i64 0] 29)).alloc (.cells #[.int .i64 0, .slice (some ⟨w.heap.size + 1 + 1 + 1, 0, none⟩) 2 2, .slice none 0 0] 25)) (some ⟨w.heap.size + 1 + 1 + 1, 0, none⟩) [r0, r0] := by
  have kk : ∀ (a : World) (o : Obj), Kept a (a.alloc o) := fun a o => (Kept.refl a).alloc o
  refine ⟨?_, ?_, ?_, ?_, ?_, ?_⟩
  · exact ((((((Kept.refl w).alloc _).alloc _).alloc _).alloc _).alloc _)
  · exact blk_old _ _ (blk_old _ _ (blk_old _ _ (blk_old _ _ (blk_new _ _))))
  · have := blk_new ((w.alloc (.cells #[.string ⟨#[120]⟩, .int .i64 1, .int .i64 9, .int .i64 1, .int .i64 1, .int .i64 1, .int .i64 0, .int .i64 0, .int .i64 0] 29)).alloc (.cells #[.string ⟨#[120]⟩, .int .i64 1, .int .i64 9, .int .i64 1, .int .i64 1, .int .i64 1, .int .i64 0, .int .i64 0, .int .i64 0] 29)) (.cells #[.int .i64 0, .slice (some ⟨w.heap.size + 1, 0, none⟩) 1 1, .slice none 0 0] 25)
    simp only [World.size_alloc] at this
    exact blk_old _ _ (blk_old _ _ this)
  · have := blk_new ((((w.alloc (.cells #[.string ⟨#[120]⟩, .int .i64 1, .int .i64 9, .int .i64 1, .int .i64 1, .int .i64 1, .int .i64 0, .int .i64 0, .int .i64 0] 29)).alloc (.cells #[.string ⟨#[120]⟩, .int .i64 1, .int .i64 9, .int .i64 1, .int .i64 1, .int .i64 1, .int .i64 0, .int .i64 0, .int .i64 0] 29)).alloc (.cells #[.int .i64 0, .slice (some ⟨w.heap.size + 1, 0, none⟩) 1 1, .slice none 0 0] 25)).alloc (.cells #[.string ⟨#[120]⟩, .int .i64 1, .int .i64 9, .int .i64 1, .int .i64 1, .int .i64 1, .int .i64 0, .int .i64 0, .int .i64 0, .string ⟨#[120]⟩, .int .i64 1, .int .i64 9, .int .i64 1, .int .i64 1, .int .i64 1, .int .i64 0, .int .i64 0, .int .i64 0] 29)) (.cells #[.int .i64 0, .slice (some ⟨w.heap.size + 1 + 1 + 1, 0, none⟩) 2 2, .slice none 0 0] 25)
    simp only [World.size_alloc] at this
    exact this
  · have := recs_here (w.alloc (.cells #[.string ⟨#[120]⟩, .int .i64 1, .int .i64 9, .int .i64 1, .int .i64 1, .int .i64 1, .int .i64 0, .int .i64 0, .int .i64 0] 29)) 29
    simp only [World.size_alloc] at this
    exact ((this.kept (kk _ _)).kept (kk _ _)).kept (kk _ _)
  · have := recs_here2 (((w.alloc (.cells #[.string ⟨#[120]⟩, .int .i64 1, .int .i64 9, .int .i64 1, .int .i64 1, .int .i64 1, .int .i64 0, .int .i64 0, .int .i64 0] 29)).alloc (.cells #[.string ⟨#[120]⟩, .int .i64 1, .int .i64 9, .int .i64 1, .int .i64 1, .int .i64 1, .int .i64 0, .int .i64 0, .int .i64 0] 29)).alloc (.cells #[.int .i64 0, .slice (some ⟨w.heap.size + 1, 0, none⟩) 1 1, .slice none 0 0] 25)) 29
    simp only [World.size_alloc] at this
    exact this.kept (kk _ _)
theorem info_sea : (Try.prog.info? 29).map (·.size) = some 9 := by kernel_rfl
theorem info_cat : (Try.prog.info? 25).map (·.size) = some 3 := by kernel_rfl
set_option maxHeartbeats 8000000 in
theorem Cat_awake (w : World) : Calls Try.prog 7 #[] w fun e w' => e = .returned (.bool true) ∧ Kept w w' := by
  have A1 := Lib.hid (aw_i ⟨#[115, 116, 45, 106, 111, 104, 110, 45, 50]⟩ true (by decide +kernel))
  have A2 := Lib.hid (aw_i ⟨#[50, 110, 100]⟩ false (by decide +kernel))
  have A3 := Lib.hid (aw_i ⟨#[97, 45, 45, 98]⟩ false (by decide +kernel))
  have A4 := Lib.hid (aw_i ⟨#[97, 45]⟩ false (by decide +kernel))
  have A5 := Lib.hid (aw_i ⟨#[65]⟩ false (by decide +kernel))
  have A6 := Lib.hid (aw_i ⟨#[]⟩ false (by decide +kernel))
  obtain ⟨KW, B1, B2, B3, R1, R2⟩ := aw_world w
  have B1 := Lib.hid B1
  have B2 := Lib.hid B2
  have B3 := Lib.hid B3
  have R1 := Lib.hid R1
  have R2 := Lib.hid R2
  go_enter Try.func7, Try.ntmps7
  go_wp2_with fail
  generalize (((((w.alloc (.cells #[.string ⟨#[120]⟩, .int .i64 1, .int .i64 9, .int .i64 1, .int .i64 1, .int .i64 1, .int .i64 0, .int .i64 0, .int .i64 0] 29)).alloc (.cells #[.string ⟨#[120]⟩, .int .i64 1, .int .i64 9, .int .i64 1, .int .i64 1, .int .i64 1, .int .i64 0, .int .i64 0, .int .i64 0] 29)).alloc (.cells #[.int .i64 0, .slice (some ⟨w.heap.size + 1, 0, none⟩) 1 1, .slice none 0 0] 25)).alloc (.cells #[.string ⟨#[120]⟩, .int .i64 1, .int .i64 9, .int .i64 1, .int .i64 1, .int .i64 1, .int .i64 0, .int .i64 0, .int .i64 0, .string ⟨#[120]⟩, .int .i64 1, .int .i64 9, .int .i64 1, .int .i64 1, .int .i64 1, .int .i64 0, .int .i64 0, .int .i64 0] 29)).alloc (.cells #[.int .i64 0, .slice (some ⟨w.heap.size + 1 + 1 + 1, 0, none⟩) 2 2, .slice none 0 0] 25)) = W5 at *
  go_at_call 8
  (with_reducible refine (A1.out _).mono ?_)
  rintro e w1 ⟨rfl, hk⟩
  have KX := hk
  clear hk
  go_wp2_with fail
  go_at_call 8
  (with_reducible refine (A2.out _).mono ?_)
  rintro e w2 ⟨rfl, hk⟩
  replace KX := KX.trans hk
  clear hk
  go_wp2_with fail
  go_at_call 8
  (with_reducible refine (A3.out _).mono ?_)
  rintro e w3 ⟨rfl, hk⟩
  replace KX := KX.trans hk
  clear hk
  go_wp2_with fail
  go_at_call 8
  (with_reducible refine (A4.out _).mono ?_)
  rintro e w4 ⟨rfl, hk⟩
  replace KX := KX.trans hk
  clear hk
  go_wp2_with fail
  go_at_call 8
  (with_reducible refine (A5.out _).mono ?_)
  rintro e w5 ⟨rfl, hk⟩
  replace KX := KX.trans hk
  clear hk
  go_wp2_with fail
  go_at_call 8
  (with_reducible refine (A6.out _).mono ?_)
  rintro e w6 ⟨rfl, hk⟩
  replace KX := KX.trans hk
  clear hk
  have bb : w6.heap[w.heap.size]? = _ := (KX.block _ (lt_of_block B1.out)).trans B1.out
  go_wp2_with (refine BigFrame.wpList_want (by rfl) (fun K0 hK0 => wp_load_row 29 _ rfl (w.heap.size) rfl 29 _ _ _ bb Try.underlying29 rfl info_sea (hK0 _ _ ?_)))
  go_at_call 10
  (with_reducible refine (aw_s _).mono ?_)
  rintro e w7 ⟨rfl, hk⟩
  replace KX := KX.trans hk
  clear hk bb
  go_wp2_with fail
  go_at_call 12
  (with_reducible refine (aw_f _).mono ?_)
  rintro e w8 ⟨rfl, hk⟩
  replace KX := KX.trans hk
  clear hk
  have bb : w8.heap[w.heap.size + 1 + 1]? = _ := (KX.block _ (lt_of_block B2.out)).trans B2.out
  go_wp2_with (refine BigFrame.wpList_want (by rfl) (fun K0 hK0 => wp_load_row 25 _ rfl (w.heap.size + 1 + 1) rfl 25 _ _ _ bb Try.underlying25 rfl info_cat (hK0 _ _ ?_)))
  go_at_call 14
  (with_reducible refine (aw_c1 _ _ _ (R1.out.kept KX)).mono ?_)
  rintro e w9 ⟨rfl, hk⟩
  replace KX := KX.trans hk
  clear hk bb
  have bb : w9.heap[w.heap.size + 1 + 1 + 1 + 1]? = _ := (KX.block _ (lt_of_block B3.out)).trans B3.out
  go_wp2_with (refine BigFrame.wpList_want (by rfl) (fun K0 hK0 => wp_load_row 25 _ rfl (w.heap.size + 1 + 1 + 1 + 1) rfl 25 _ _ _ bb Try.underlying25 rfl info_cat (hK0 _ _ ?_)))
  go_at_call 14
  (with_reducible refine (aw_c2 _ _ _ (R2.out.kept KX)).mono ?_)
  rintro e w10 ⟨rfl, hk⟩
  replace KX := KX.trans hk
  clear hk bb
  go_wp2_with fail
  go_at_call 14
  (with_reducible refine (aw_c3 _).mono ?_)
  rintro e w11 ⟨rfl, hk⟩
  replace KX := KX.trans hk
  clear hk
  have bb : w11.heap[w.heap.size + 1 + 1]? = _ := (KX.block _ (lt_of_block B2.out)).trans B2.out
  go_wp2_with (refine BigFrame.wpList_want (by rfl) (fun K0 hK0 => wp_load_row 25 _ rfl (w.heap.size + 1 + 1) rfl 25 _ _ _ bb Try.underlying25 rfl info_cat (hK0 _ _ ?_)))
  go_at_call 16
  (with_reducible refine (aw_fd _ _ _).mono ?_)
  rintro e w12 ⟨rfl, hk⟩
  replace KX := KX.trans hk
  clear hk bb
  go_wp2
  go_ret
  exact ⟨rfl, KW.trans KX⟩
end Go.Proofs.Ythhaicledbcnmaa

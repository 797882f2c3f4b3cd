/- The fixed examples of the laws of layer 9. -/
import Derived.Test.YtdmgnanpjkimlaaDoorTab
import Derived.Test.YtdmgnanpjkimlaaDoorRefP
set_option linter.unusedSimpArgs false
set_option linter.unusedVariables false
set_option linter.unusedSectionVars false
namespace Go.Proofs.YtdmgnanpjkimlaaDoor
open Go.ChangeShapes Go.WideShapes Go.ChangeAt Go.RowKit
set_option maxHeartbeats 1000000
set_option maxRecDepth 20000

theorem Table_len (k y : Int) (n : Nat) (x : Int) (hn : (if flE k y = 0 then (bearsL (labN k y) dayList).length else 0) = n) (hx : flE k y = x) (w : World) (hT : RTab w) (hc : Sm k) :
    Calls Tryd.prog 11 #[.int .i64 k, .int .i64 y] w fun e w' => ∃ o c, e = .returned (.tuple #[.slice o n c, .int .i64 x]) ∧ Kept w w' := by
  refine (Table_any k y w hT hc).mono ?_
  rintro e w' ⟨o, c, rfl, _, hk⟩
  exact ⟨o, c, by rw [hn, hx], hk⟩
theorem Pas_awake (w : World) (hT : RTab w) : Calls Tryd.prog 4 #[] w fun e w' => e = .returned (.bool true) ∧ Kept w w' := by
  have KT := Lib.hid (fun w' (k : Kept w w') => hT.kept k)
  have s2 : Sm 2 := by unfold Sm; omega
  have s1 : Sm 1 := by unfold Sm; omega
  have KA := Lib.hid (fun w hT => FullMoon_any 2 2000 w hT s2)
  rw [show flE 2 2000 = 0 from by decide +kernel, if_pos rfl, show dmo (moonI 2 2000) = 4 from by decide +kernel, show dda (moonI 2 2000) = 18 from by decide +kernel] at KA
  have KB := Lib.hid (fun w hT => FullMoon_any 1 2000 w hT s1)
  rw [show flE 1 2000 = 0 from by decide +kernel, if_pos rfl, show dmo (moonI 1 2000) = 4 from by decide +kernel, show dda (moonI 1 2000) = 10 from by decide +kernel] at KB
  have KC := Lib.hid (fun w hT => FullMoon_any 2 1582 w hT s2)
  rw [show flE 2 1582 = 1 from by decide +kernel, if_neg (by decide)] at KC
  have KN := Lib.hid (fun w (hT : RTab w) => NewMoon_any 2 2000 4 5 w hT.1 hT.2 s2)
  rw [show nmE 2 2000 4 5 = 0 from by decide +kernel, show nmB 2 2000 4 5 = true from by decide +kernel] at KN
  have KL := Lib.hid (fun w hT => Table_len 2 2000 13 0 (by decide +kernel) (by decide +kernel) w hT s2)
  clear hT s2 s1
  go_enter Tryd.func4, Tryd.ntmps4
  go_wp2_with fail
  (go_at_call 5; refine (KA.out _ (KT.out _ (by repeat (first | with_reducible exact Kept.refl _ | with_reducible assumption | with_reducible refine Kept.drew ?_ | with_reducible refine Kept.drewN ?_ _ | with_reducible refine Kept.alloc ?_ _ | (with_reducible refine Kept.setCell ?_ (by first | exact Nat.le_refl _ | omega | (simp; done) | (simp; omega)) _) | (with_reducible refine Kept.trans ?_ (by with_reducible assumption)))))).mono ?_; rintro e w1 ⟨rfl, hk1⟩)
  go_wp2_with fail
  (go_at_call 5; refine (KB.out _ (KT.out _ (by repeat (first | with_reducible exact Kept.refl _ | with_reducible assumption | with_reducible refine Kept.drew ?_ | with_reducible refine Kept.drewN ?_ _ | with_reducible refine Kept.alloc ?_ _ | (with_reducible refine Kept.setCell ?_ (by first | exact Nat.le_refl _ | omega | (simp; done) | (simp; omega)) _) | (with_reducible refine Kept.trans ?_ (by with_reducible assumption)))))).mono ?_; rintro e w2 ⟨rfl, hk2⟩)
  have hB2_2 := hk2
  obtain ⟨hc2_2, hf2_2⟩ := kept_cells hB2_2
  have hz2_0_2 : w1.heap.size < w2.heap.size := by have := hB2_2.size; simp at this; omega
  go_wp2_with fail
  (go_at_call 5; refine (KC.out _ (KT.out _ (by repeat (first | with_reducible exact Kept.refl _ | with_reducible assumption | with_reducible refine Kept.drew ?_ | with_reducible refine Kept.drewN ?_ _ | with_reducible refine Kept.alloc ?_ _ | (with_reducible refine Kept.setCell ?_ (by first | exact Nat.le_refl _ | omega | (simp; done) | (simp; omega)) _) | (with_reducible refine Kept.trans ?_ (by with_reducible assumption)))))).mono ?_; rintro e w3 ⟨rfl, hk3⟩)
  have hB2_3 := Kept.trans (Kept.alloc hB2_2 _) hk3
  have hB3_3 := hk3
  obtain ⟨hc2_3, hf2_3⟩ := kept_cells hB2_3
  have hz2_0_3 : w1.heap.size < w3.heap.size := by have := hB2_3.size; simp at this; omega
  obtain ⟨hc3_3, hf3_3⟩ := kept_cells hB3_3
  have hz3_0_3 : w2.heap.size < w3.heap.size := by have := hB3_3.size; simp at this; omega
  go_wp2_with fail
  (go_at_call 8; refine (KN.out _ (KT.out _ (by repeat (first | with_reducible exact Kept.refl _ | with_reducible assumption | with_reducible refine Kept.drew ?_ | with_reducible refine Kept.drewN ?_ _ | with_reducible refine Kept.alloc ?_ _ | (with_reducible refine Kept.setCell ?_ (by first | exact Nat.le_refl _ | omega | (simp; done) | (simp; omega)) _) | (with_reducible refine Kept.trans ?_ (by with_reducible assumption)))))).mono ?_; rintro e w4 ⟨rfl, hk4⟩)
  have hB2_4 := Kept.trans (Kept.alloc hB2_3 _) hk4
  have hB3_4 := Kept.trans (Kept.alloc hB3_3 _) hk4
  have hB4_4 := hk4
  obtain ⟨hc2_4, hf2_4⟩ := kept_cells hB2_4
  have hz2_0_4 : w1.heap.size < w4.heap.size := by have := hB2_4.size; simp at this; omega
  obtain ⟨hc3_4, hf3_4⟩ := kept_cells hB3_4
  have hz3_0_4 : w2.heap.size < w4.heap.size := by have := hB3_4.size; simp at this; omega
  obtain ⟨hc4_4, hf4_4⟩ := kept_cells hB4_4
  have hz4_0_4 : w3.heap.size < w4.heap.size := by have := hB4_4.size; simp at this; omega
  go_wp2_with fail
  go_at_call 11
  refine (KL.out _ (KT.out _ (by repeat (first | with_reducible exact Kept.refl _ | with_reducible assumption | with_reducible refine Kept.drew ?_ | with_reducible refine Kept.drewN ?_ _ | with_reducible refine Kept.alloc ?_ _ | (with_reducible refine Kept.setCell ?_ (by first | exact Nat.le_refl _ | omega | (simp; done) | (simp; omega)) _) | (with_reducible refine Kept.trans ?_ (by with_reducible assumption)))))).mono ?_
  rintro e w5 ⟨o, c, rfl, hk5⟩
  have hB2_5 := Kept.trans hB2_4 hk5
  have hB3_5 := Kept.trans hB3_4 hk5
  obtain ⟨hc2_5, hf2_5⟩ := kept_cells hB2_5
  obtain ⟨hc3_5, hf3_5⟩ := kept_cells hB3_5
  have hz2_5 : w1.heap.size < w5.heap.size := by have := hB2_5.size; simp at this; omega
  have hz3_5 : w2.heap.size < w5.heap.size := by have := hB3_5.size; simp at this; omega
  go_wp2
  go_ret
  exact ⟨rfl, (by repeat (first | with_reducible exact Kept.refl _ | with_reducible assumption | with_reducible refine Kept.drew ?_ | with_reducible refine Kept.drewN ?_ _ | with_reducible refine Kept.alloc ?_ _ | (with_reducible refine Kept.setCell ?_ (by first | exact Nat.le_refl _ | omega | (simp; done) | (simp; omega)) _) | (with_reducible refine Kept.trans ?_ (by with_reducible assumption))))⟩
end Go.Proofs.YtdmgnanpjkimlaaDoor

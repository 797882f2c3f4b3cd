/- The fixed examples of the Whole laws. -/
import Derived.Test.YtblaphkaklocfaaGreatDoorG35
import Derived.Test.YtblaphkaklocfaaGreatDoorG38
set_option linter.unusedSimpArgs false
set_option linter.unusedVariables false
set_option linter.unusedSectionVars false
namespace Go.Proofs.YtblaphkaklocfaaGreatDoor
open Go.ChangeShapes Go.WideShapes Go.ChangeAt Go.RowKit
set_option maxHeartbeats 8000000
set_option maxRecDepth 20000

theorem Top_awake (w : World) (hT : RTab w) (h10 : Tab10 w) : Calls Tryz.prog 8 #[] w fun e w' => e = .returned (.bool true) ∧ Kept w w' := by
  obtain ⟨f0, f1, f2, f3⟩ := ed_24
  have KA := Lib.hid (fun w' (q : Kept w w') => (show Calls Tryz.prog 12 #[.agg #[.int .i64 1, .int .i64 2, .int .i64 1, .int .i64 2024, .int .i64 0, .int .i64 0, .int .i64 0, .string ⟨#[]⟩]] w' fun e w2 => e = .returned (.agg #[.string ⟨#[50, 48, 50, 52, 32, 51, 32, 51, 49]⟩, .int .i64 0, .int .i64 0]) ∧ Kept w' w2 from by
    have := ask_table 2 2024 w' (hT.kept q) (h10.kept q) (by unfold Sm; omega) f0 (by rw [f1, f2, f3]; omega)
    rw [f1, f2, f3, tx_a] at this
    exact this))
  have KB := Lib.hid (fun w' (q : Kept w w') => (show Calls Tryz.prog 12 #[.agg #[.int .i64 6, .int .i64 0, .int .i64 0, .int .i64 2024, .int .i64 0, .int .i64 0, .int .i64 0, .string sAnn]] w' fun e w2 => e = .returned (.agg #[.string ⟨#[50, 48, 50, 52, 32, 52, 32, 56]⟩, .int .i64 0, .int .i64 0]) ∧ Kept w' w2 from by
    have := ask_where w' (hT.kept q) (h10.kept q)
    rw [tx_b] at this
    exact this))
  have KP := Lib.hid (fun w' => Parse_ok w')
  obtain ⟨T, hm⟩ := ev_none
  have KZ := Lib.hid (fun o q w' (k : Kept w w') (h1 : IsRecs w' o [r0]) => (show Calls Tryz.prog 19 #[.agg #[.int .i64 5, .slice o 1 q, .slice none 0 0], .int .i64 2024] w' fun e w2 => ∃ oe ce, e = .returned (.tuple #[.agg #[.int .i64 2024, .slice oe 366 ce], .int .i64 0]) ∧ Kept w' w2 from
    (Build_ok ctx_0 o none q 0 w' ⟨hT.kept k, h1, isRecs_nil _ _⟩ T hm (fun i hi => stableAt_small _ (ev_small0 i (by rw [ev_len] at hi; exact hi)))).mono fun e w2 h => by
      obtain ⟨ve, le, rfl, hE, hle, hk⟩ := h
      obtain ⟨oe, ce, rfl⟩ := owns_form hE.row
      have hlen : le.length = 366 := by have := congrArg List.length hle; simp only [List.length_map, entsC, List.length_range] at this; rw [ev_len] at this; exact this
      rw [hlen]
      exact ⟨_, _, rfl, hk⟩))
  have KN := Lib.hid (fun w' => Names_ok w')
  clear hT h10 f0 f1 f2 f3 hm
  unfold sAnn at KB
  unfold T0 at KP
  go_enter Tryz.func8, Tryz.ntmps8
  go_wp2_with fail
  go_at_call 12
  refine (KA.out _ (Kept.refl _)).mono ?_
  rintro e w1 ⟨rfl, hk1⟩
  have K1 := Lib.hid hk1
  clear hk1 KA
  have HA1 := Lib.hid (Blk.new w1 #[.string ⟨#[50, 48, 50, 52, 32, 51, 32, 51, 49]⟩, .int .i64 0, .int .i64 0] 25)
  go_wp2_with fail
  go_at_call 12
  refine (KB.out _ (K1.out.alloc _)).mono ?_
  rintro e w2 ⟨rfl, hk2⟩
  have K2 := Lib.hid ((K1.out.alloc _).trans hk2)
  have HA2 := Lib.hid ((HA1.out.kept hk2).alloc (.cells #[.string ⟨#[50, 48, 50, 52, 32, 52, 32, 56]⟩, .int .i64 0, .int .i64 0] 25))
  have HB2 := Lib.hid (Blk.new w2 #[.string ⟨#[50, 48, 50, 52, 32, 52, 32, 56]⟩, .int .i64 0, .int .i64 0] 25)
  have L12 := Lib.hid (show w1.heap.size < w2.heap.size by have := hk2.size; simp at this; omega)
  clear hk2 KB K1 HA1
  go_wp2_with fail
  go_at_call 32
  refine (KP.out _).mono ?_
  rintro e w3 ⟨o, q, rfl, hR3, hk3⟩
  have K3 := Lib.hid ((K2.out.alloc _).trans hk3)
  have HA3 := Lib.hid (HA2.out.kept hk3)
  have HB3 := Lib.hid (HB2.out.kept hk3)
  have HR3 := Lib.hid hR3
  clear hk3 hR3 KP K2 HA2 HB2
  go_wp2_with fail
  go_at_call 19
  refine (KZ.out o q _ (K3.out.alloc _) (HR3.out.kept ((Kept.refl _).alloc _))).mono ?_
  rintro e w4 ⟨oe, ce, rfl, hk4⟩
  have K4 := Lib.hid ((K3.out.alloc _).trans hk4)
  have HA5 : Hid (Blk w4 w1.heap.size #[.string ⟨#[50, 48, 50, 52, 32, 51, 32, 51, 49]⟩, .int .i64 0, .int .i64 0] 25) := (show Blk _ _ _ _ from (HA3.out.alloc _).kept hk4)
  have HB5 : Hid (Blk w4 w2.heap.size #[.string ⟨#[50, 48, 50, 52, 32, 52, 32, 56]⟩, .int .i64 0, .int .i64 0] 25) := (show Blk _ _ _ _ from (HB3.out.alloc _).kept hk4)
  clear hk4 KZ K3 HA3 HB3 HR3
  have a0 : w4.cell? ⟨w1.heap.size, 0, none⟩ = some (.string ⟨#[50, 48, 50, 52, 32, 51, 32, 51, 49]⟩) := (HA5.out.cell _).trans rfl
  have a1 : w4.cell? ⟨w1.heap.size, 1, none⟩ = some (.int .i64 0) := (HA5.out.cell _).trans rfl
  have a2 : w4.cell? ⟨w1.heap.size, 2, none⟩ = some (.int .i64 0) := (HA5.out.cell _).trans rfl
  have b0 : w4.cell? ⟨w2.heap.size, 0, none⟩ = some (.string ⟨#[50, 48, 50, 52, 32, 52, 32, 56]⟩) := (HB5.out.cell _).trans rfl
  have b1 : w4.cell? ⟨w2.heap.size, 1, none⟩ = some (.int .i64 0) := (HB5.out.cell _).trans rfl
  have b2 : w4.cell? ⟨w2.heap.size, 2, none⟩ = some (.int .i64 0) := (HB5.out.cell _).trans rfl
  have la := HA5.out.lt
  have lb := HB5.out.lt
  go_wp2_with fail
  go_at_call 33
  refine (KN.out _).mono ?_
  rintro e w5 ⟨on, qn, rfl, hk5⟩
  go_wp2_with fail
  go_ret
  exact ⟨rfl, (K4.out.alloc _).trans hk5⟩
end Go.Proofs.YtblaphkaklocfaaGreatDoor

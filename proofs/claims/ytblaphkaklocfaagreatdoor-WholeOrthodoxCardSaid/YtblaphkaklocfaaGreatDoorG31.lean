/- Contract: query's calendar. -/
import Derived.Test.YtblaphkaklocfaaGreatDoorG24
import Derived.Test.YtblaphkaklocfaaGreatDoorG30
set_option linter.unusedSimpArgs false
set_option linter.unusedVariables false
set_option linter.unusedSectionVars false
namespace Go.Proofs.YtblaphkaklocfaaGreatDoor
open Go.ChangeShapes Go.WideShapes Go.ChangeAt Go.RowKit
set_option maxHeartbeats 8000000
set_option maxRecDepth 20000

theorem calendar_ok {f y : Int} {L M : List Rec} (C : Ctx f L M y) (o o' : Option Addr) (q q' : Nat) (w : World) (I : Cin w o o' L M) (T : List Mov) (hT : movesC f L M y = some T) (hS : ∀ i, i < yearLen y → StableAt (candsY L M y i).length) :
    Calls Tryz.prog 137 #[catV f o o' q q' L M, .int .i64 y] w fun e w' => ∃ ve le, e = .returned (.agg #[.int .i64 y, ve]) ∧ EntSt w.heap.size w' ve le ∧ le.map Prod.fst = entsC L M y T ∧ Kept w w' := by
  have KB := Lib.hid (fun w' (k : Kept w w') => Build_ok C o o' q q' w' (I.kept k) T hT hS)
  unfold catV at *
  clear I hT hS C
  go_enter Tryz.func137, Tryz.ntmps137
  go_wp2_with fail
  obtain ⟨W1, hW1⟩ : ∃ x, x = (w.alloc (.cells #[.int .i64 f, .slice o L.length q, .slice o' M.length q'] 45)).alloc (.cells #[.int .i64 0, .slice none 0 0] 49) := ⟨_, rfl⟩
  rw [← hW1]
  have k1 : Kept w W1 := by rw [hW1]; exact ((Kept.refl w).alloc _).alloc _
  have bR : Hid (Blk W1 (w.heap.size + 1) #[.int .i64 0, .slice none 0 0] 49) := (show Blk _ _ _ _ from by
    rw [hW1]
    have := Blk.new (w.alloc (.cells #[.int .i64 f, .slice o L.length q, .slice o' M.length q'] 45)) #[.int .i64 0, .slice none 0 0] 49
    rw [World.size_alloc] at this
    exact this)
  clear hW1
  go_at_call 19
  refine (KB.out _ k1).mono ?_
  rintro e w2 ⟨ve, le, rfl, hE, hle, hk2⟩
  obtain ⟨oe, ce, rfl⟩ := owns_form hE.row
  have HE := Lib.hid (hE.base k1.size)
  have HL := Lib.hid hle
  have K2 := Lib.hid (k1.trans hk2)
  have bR2 := Lib.hid (bR.out.kept hk2)
  have KF := Lib.hid (fun w' => fail_ok 0 w')
  clear hE hle hk2 k1 bR KB
  have r0 : w2.cell? ⟨w.heap.size + 1, 0, none⟩ = some (.int .i64 0) := (bR2.out.cell _).trans rfl
  have r1 : w2.cell? ⟨w.heap.size + 1, 1, none⟩ = some (.slice none 0 0) := (bR2.out.cell _).trans rfl
  have g0 := bR2.out.free 0
  have g1 := bR2.out.free 1
  have lR := bR2.out.lt
  go_wp2_with (first | (go_at_call 43; (with_reducible refine (KF.out _).mono ?_); rintro e w3 ⟨rfl, rfl⟩) | fail)
  have B1 : Blk (w2.setCell ⟨w.heap.size + 1, 0, none⟩ (.int .i64 y)) (w.heap.size + 1) #[.int .i64 y, .slice none 0 0] 49 := blk_set bR2.out _ rfl
  have B2 : Blk ((w2.setCell ⟨w.heap.size + 1, 0, none⟩ (.int .i64 y)).setCell ⟨w.heap.size + 1, 1, none⟩ (.slice oe le.length ce)) (w.heap.size + 1) #[.int .i64 y, .slice oe le.length ce] 49 := blk_set B1 _ rfl
  have B3 := B2.alloc (.cells #[.int .i64 y, .slice oe le.length ce] 49)
  refine bodyPost_ret (results_cell_row Tryz.results137 _ _ (w.heap.size + 1) _ #[.int .i64 y, .slice oe le.length ce] _ _ rfl B3 Tryz.underlying49 rfl (by kernel_rfl)) rfl ?_
  have E1 := HE.out.set bR2.out (by decide) (by decide) (o := 0) (.int .i64 y)
  have E2 := E1.set B1 (by decide) (by decide) (o := 1) (.slice oe le.length ce)
  exact ⟨_, le, rfl, E2.kept ((Kept.refl _).alloc _), HL.out, Kept.alloc (Kept.setCell (Kept.setCell K2.out (by simp) _) (by simp) _) _⟩
end Go.Proofs.YtblaphkaklocfaaGreatDoor

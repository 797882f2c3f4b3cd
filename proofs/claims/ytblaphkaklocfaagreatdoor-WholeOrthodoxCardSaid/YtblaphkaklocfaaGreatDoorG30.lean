/- Contracts: query's fail (nothing fails), DateText. -/
import Derived.Test.YtblaphkaklocfaaGreatDoorG13
import Derived.Test.YtblaphkaklocfaaGreatDoorG14
import Derived.Outline
import Derived.Lib.ItoaLen
import Derived.Deep.RegionHeld3
set_option linter.unusedSimpArgs false
set_option linter.unusedVariables false
set_option linter.unusedSectionVars false
namespace Go.Proofs.YtblaphkaklocfaaGreatDoor
open Go.ChangeShapes Go.WideShapes Go.ChangeAt Go.RowKit Go.Sort
set_option maxHeartbeats 2000000
set_option maxRecDepth 20000

def Tab10 (w : World) : Prop := Lib.TabIs Tryz.prog w "internal/strconv.uint64pow10" .u64 Lib.pow10Tab
theorem Tab10.kept {w w' : World} (h : Tab10 w) (q : Kept w w') : Tab10 w' := by
  unfold Tab10 Lib.TabIs World.var? at *
  cases hg : Tryz.prog.globalNamed "internal/strconv.uint64pow10" with
  | none => simp [hg] at h
  | some g =>
    simp only [hg, Option.bind_some] at h ⊢
    have hlt : g < w.heap.size := by
      cases he : w.heap[g]? with
      | none => simp [he] at h
      | some o => exact (Array.getElem?_eq_some_iff.1 he).1
    rw [q.block g hlt]
    exact h
theorem kept_growN (w : World) (k : Nat) (os : Array Obj) : Kept w (grow (w.drewN k) os) := by
  refine ⟨rfl, rfl, rfl, ?_, fun i hi => ?_⟩
  · simp [grow, World.drewN]
  · exact Array.getElem?_append_left hi
theorem Itoa_ok (n : Int) (h0 : -9223372036854775808 ≤ n) (h1 : n ≤ 9223372036854775807) (w : World) (h : Tab10 w) : Calls Tryz.prog 35 #[.int .i64 n] w fun e w' => e = .returned (.string ⟨(Lib.itoa n).toArray⟩) ∧ Kept w w' :=
  (Tryz.strconv_Itoa n h0 h1 w h).mono fun e w' q => by
    obtain ⟨rfl, k, os, rfl⟩ := q
    exact ⟨rfl, kept_growN w k os⟩
theorem fail_ok (n : Int) (w : World) : Calls Tryz.prog 43 #[.int .i64 0, .int .i64 n] w fun e w' => e = .returned (.tuple #[]) ∧ w' = w := by
  go_enter Tryz.func43, Tryz.ntmps43
  go_wp2
  go_end0
  exact ⟨rfl, rfl⟩
/-- A number's text. -/
def itoB (n : Int) : ByteArray := ⟨(Lib.itoa n).toArray⟩
theorem itoB_size (n : Int) (h : -1000000000000 ≤ n ∧ n ≤ 1000000000000) : (itoB n).size ≤ 21 := by
  have := Lib.itoa_length_le n (by omega) (by omega)
  show ((Lib.itoa n).toArray).size ≤ 21
  simpa using this
def dateT (y m d : Int) : ByteArray := itoB y ++ ⟨#[32]⟩ ++ itoB m ++ ⟨#[32]⟩ ++ itoB d
theorem DateText_ok (y m d : Int) (w : World) (h : Tab10 w) (hy : -1000000000000 ≤ y ∧ y ≤ 1000000000000) (hm : -1000000000000 ≤ m ∧ m ≤ 1000000000000) (hd : -1000000000000 ≤ d ∧ d ≤ 1000000000000) :
    Calls Tryz.prog 10 #[.agg #[.int .i64 y, .int .i64 m, .int .i64 d]] w fun e w' => e = .returned (.string (dateT y m d)) ∧ Kept w w' := by
  have KI := Lib.hid (fun n w' (q : Kept w w') (hn : -1000000000000 ≤ n ∧ n ≤ 1000000000000) => (show Calls Tryz.prog 35 #[.int .i64 n] w' fun e w2 => e = .returned (.string (itoB n)) ∧ Kept w' w2 from Itoa_ok n (by omega) (by omega) w' (h.kept q)))
  have ly := itoB_size y hy
  have lm := itoB_size m hm
  have ld := itoB_size d hd
  have HD : Hid (dateT y m d = itoB y ++ ⟨#[32]⟩ ++ itoB m ++ ⟨#[32]⟩ ++ itoB d) := (show _ = _ from rfl)
  have h32 : (⟨#[32]⟩ : ByteArray).size = 1 := rfl
  have q1 : ¬ 9223372036854775807 < (itoB y).size + (⟨#[32]⟩ : ByteArray).size := by omega
  have q2 : ¬ 9223372036854775807 < (itoB y ++ ⟨#[32]⟩).size + (itoB m).size := by rw [ByteArray.size_append]; omega
  have q3 : ¬ 9223372036854775807 < (itoB y ++ ⟨#[32]⟩ ++ itoB m).size + (⟨#[32]⟩ : ByteArray).size := by rw [ByteArray.size_append, ByteArray.size_append]; omega
  have q4 : ¬ 9223372036854775807 < (itoB y ++ ⟨#[32]⟩ ++ itoB m ++ ⟨#[32]⟩).size + (itoB d).size := by rw [ByteArray.size_append, ByteArray.size_append, ByteArray.size_append]; omega
  have hadd0 : ∀ (a b : ByteArray) (w : World), ¬ 9223372036854775807 < a.size + b.size → (Op.stringOp .add a b).run Tryz.prog w = .ok (.string (a ++ b)) w := fun a b w h => run_string_add_sum w a b (by omega)
  have ha1 : ∀ w : World, (Op.stringOp .add (itoB y) ⟨#[32]⟩).run Tryz.prog w = .ok (.string (itoB y ++ ⟨#[32]⟩)) w := fun w => hadd0 _ _ w q1
  have ha2 : ∀ w : World, (Op.stringOp .add (itoB y ++ ⟨#[32]⟩) (itoB m)).run Tryz.prog w = .ok (.string (itoB y ++ ⟨#[32]⟩ ++ itoB m)) w := fun w => hadd0 _ _ w q2
  have ha3 : ∀ w : World, (Op.stringOp .add (itoB y ++ ⟨#[32]⟩ ++ itoB m) ⟨#[32]⟩).run Tryz.prog w = .ok (.string (itoB y ++ ⟨#[32]⟩ ++ itoB m ++ ⟨#[32]⟩)) w := fun w => hadd0 _ _ w q3
  have ha4 : ∀ w : World, (Op.stringOp .add (itoB y ++ ⟨#[32]⟩ ++ itoB m ++ ⟨#[32]⟩) (itoB d)).run Tryz.prog w = .ok (.string (itoB y ++ ⟨#[32]⟩ ++ itoB m ++ ⟨#[32]⟩ ++ itoB d)) w := fun w => hadd0 _ _ w q4
  clear hadd0
  clear h
  go_enter Tryz.func10, Tryz.ntmps10
  go_wp2_with fail
  obtain ⟨W1, hW1⟩ : ∃ x, x = w.alloc (.cells #[.int .i64 y, .int .i64 m, .int .i64 d] 29) := ⟨_, rfl⟩
  rw [← hW1]
  have k1 : Kept w W1 := by rw [hW1]; exact (Kept.refl w).alloc _
  have bD : Blk W1 w.heap.size #[.int .i64 y, .int .i64 m, .int .i64 d] 29 := by rw [hW1]; exact Blk.new w _ _
  have c0 : W1.cell? ⟨w.heap.size, 0, none⟩ = some (.int .i64 y) := (bD.cell _).trans rfl
  have c1 : W1.cell? ⟨w.heap.size, 1, none⟩ = some (.int .i64 m) := (bD.cell _).trans rfl
  have c2 : W1.cell? ⟨w.heap.size, 2, none⟩ = some (.int .i64 d) := (bD.cell _).trans rfl
  have lD := bD.lt
  clear hW1 bD
  go_region_held3 (fun w' => Kept W1 w' ∧ (∀ b o, b < W1.heap.size → w'.cell? ⟨b, o, none⟩ = W1.cell? ⟨b, o, none⟩)) (exact held_of (by (repeat (first | with_reducible assumption | with_reducible exact Kept.refl _ | with_reducible apply Kept.drew | with_reducible apply Kept.alloc | (with_reducible refine Kept.setCell ?_ (by first | exact Nat.le_refl _ | (dsimp only; omega)) _))))) (first
    | (go_at_call_of 35 (Value.int .i64 y); (with_reducible refine (KI.out y _ (k1.trans ?_) hy).mono ?_); (· (repeat (first | with_reducible assumption | with_reducible exact Kept.refl _ | with_reducible apply Kept.drew | with_reducible apply Kept.alloc | (with_reducible refine Kept.setCell ?_ (by first | exact Nat.le_refl _ | (dsimp only; omega)) _)))); rintro e w2 ⟨rfl, hk2⟩; have kk2 : Kept W1 w2 := Kept.trans (by (repeat (first | with_reducible assumption | with_reducible exact Kept.refl _ | with_reducible apply Kept.drew | with_reducible apply Kept.alloc | (with_reducible refine Kept.setCell ?_ (by first | exact Nat.le_refl _ | (dsimp only; omega)) _)))) hk2)
    | (go_at_call_of 35 (Value.int .i64 m); (with_reducible refine (KI.out m _ (k1.trans ?_) hm).mono ?_); (· (repeat (first | with_reducible assumption | with_reducible exact Kept.refl _ | with_reducible apply Kept.drew | with_reducible apply Kept.alloc | (with_reducible refine Kept.setCell ?_ (by first | exact Nat.le_refl _ | (dsimp only; omega)) _)))); rintro e w3 ⟨rfl, hk3⟩; have kk3 : Kept W1 w3 := Kept.trans (by (repeat (first | with_reducible assumption | with_reducible exact Kept.refl _ | with_reducible apply Kept.drew | with_reducible apply Kept.alloc | (with_reducible refine Kept.setCell ?_ (by first | exact Nat.le_refl _ | (dsimp only; omega)) _)))) hk3)
    | (go_at_call_of 35 (Value.int .i64 d); (with_reducible refine (KI.out d _ (k1.trans ?_) hd).mono ?_); (· (repeat (first | with_reducible assumption | with_reducible exact Kept.refl _ | with_reducible apply Kept.drew | with_reducible apply Kept.alloc | (with_reducible refine Kept.setCell ?_ (by first | exact Nat.le_refl _ | (dsimp only; omega)) _)))); rintro e w4 ⟨rfl, hk4⟩; have kk4 : Kept W1 w4 := Kept.trans (by (repeat (first | with_reducible assumption | with_reducible exact Kept.refl _ | with_reducible apply Kept.drew | with_reducible apply Kept.alloc | (with_reducible refine Kept.setCell ?_ (by first | exact Nat.le_refl _ | (dsimp only; omega)) _)))) hk4))
  all_goals go_wp2
  all_goals go_ret
  all_goals exact ⟨by rw [HD.out]; rfl, k1.trans kk4⟩
end Go.Proofs.YtblaphkaklocfaaGreatDoor

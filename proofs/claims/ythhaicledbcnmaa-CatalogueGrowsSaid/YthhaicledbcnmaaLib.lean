/- Plain lemmas and the world relation that all later texts use; no program in sight. -/
import Derived.WalkKit
import Derived.ProofKit
import Derived.OpenShut
import Derived.Below
import Derived.Lib.Hide
import Derived.Deep.Draws
import Derived.Deep.RegionHeld3
set_option linter.unusedSimpArgs false
set_option linter.unusedVariables false
set_option linter.unusedSectionVars false
namespace Go.Proofs.Ythhaicledbcnmaa
open Go.ChangeShapes Go.WideShapes Go.ChangeAt Go.RowKit

/-- What was there is as it was. -/
def Kept (w w' : World) : Prop := Below w.heap.size w w'
theorem Kept.refl (w : World) : Kept w w := Below.refl _ _
theorem Kept.trans {a b c : World} (h : Kept a b) (k : Kept b c) : Kept a c := Below.trans h (Below.mono k h.size)
theorem Kept.drew {a b : World} (h : Kept a b) : Kept a b.drew := Below.drew h
theorem Kept.drewN {a b : World} (h : Kept a b) (n : Nat) : Kept a (b.drewN n) := ⟨h.os, h.tape, h.output, h.size, h.block⟩
theorem Kept.alloc {a b : World} (h : Kept a b) (o : Obj) : Kept a (b.alloc o) := Below.alloc h h.size o
theorem Kept.setCell {a b : World} (h : Kept a b) {p : Addr} (hp : a.heap.size ≤ p.block) (u : Value) : Kept a (b.setCell p u) := Below.setCell h hp u
theorem Kept.size {a b : World} (h : Kept a b) : a.heap.size ≤ b.heap.size := Below.size h
theorem Kept.cell {a b : World} (h : Kept a b) (k o : Nat) (hk : k < a.heap.size) : b.cell? ⟨k, o, none⟩ = a.cell? ⟨k, o, none⟩ := Below.cell (p := ⟨k, o, none⟩) h hk
theorem Kept.frozen {a b : World} (h : Kept a b) (k o : Nat) (hk : k < a.heap.size) : b.frozen? ⟨k, o, none⟩ = a.frozen? ⟨k, o, none⟩ := Below.frozen (p := ⟨k, o, none⟩) h hk
theorem Kept.block {a b : World} (h : Kept a b) (k : Nat) (hk : k < a.heap.size) : b.heap[k]? = a.heap[k]? := Below.block h k hk

theorem kept_cells {W w1 : World} (hb : Kept W w1) : (∀ b o, b < W.heap.size → w1.cell? ⟨b, o, none⟩ = W.cell? ⟨b, o, none⟩) ∧ (∀ b o, b < W.heap.size → w1.frozen? ⟨b, o, none⟩ = W.frozen? ⟨b, o, none⟩) :=
  ⟨fun b o h => hb.cell b o h, fun b o h => hb.frozen b o h⟩

/-- What a region that holds a call is told of every world on its way: what was there at its begin is as it was. -/
theorem held_of {W w1 : World} (hb : Kept W w1) : Kept W w1 ∧ (∀ b o, b < W.heap.size → w1.cell? ⟨b, o, none⟩ = W.cell? ⟨b, o, none⟩) :=
  ⟨hb, fun b o h => hb.cell b o h⟩

section
variable {H : Type} {enc : TypeId × Value → H} {P : Program}
/-- The row's last step where only 'Kept' is known of the world. -/
theorem post_of_kept {f : Func} {s : ChangeSpec} {apart fresh handsOn again : Bool} {W W' : World} {args : Array Value} {v : Value} {ds gs : List (DataW H)} {before pa pv : List MemPlace}
    (hW : DataW.Whole enc P f.params.toList s.vars apart W args.toList ds gs before)
    (hres : ∀ (b : Nat) (sp : Nat → Bool) (hd : Bool), DataW.TrodAll enc P W' b sp hd f.resultTypes.toList (v.resultList f.resultTypes.size) (s.fn H (ds ++ gs)).results [])
    (hargs : ∀ sp : Nat → Bool, (∀ p ∈ before, sp p.block = true) → DataW.TrodAll enc P W' 0 sp true f.params.toList args.toList (s.fn H (ds ++ gs)).args pa)
    (hvars : ∀ sp : Nat → Bool, (∀ p ∈ before, sp p.block = true) → DataW.TrodVars enc P W' sp s.vars (s.fn H (ds ++ gs)).vars pv)
    (hps : before = pa ++ pv) (hb : Kept W W')
    (hok : ∀ (j : Nat) (t : TypeId) (r : Value), f.resultTypes[j]? = some t → (v.resultList f.resultTypes.size)[j]? = some r → Value.okWide P W' .any 0 t r) :
    s.post enc P f apart fresh handsOn again W args v W' := by
  have hlt : ∀ p ∈ before, p.block < W.heap.size := fun p hp => hW.lt p hp
  have hold : ∀ p ∈ before, (fun b => decide (b < W.heap.size)) p.block = true := fun p hp => by simpa using hlt p hp
  refine ⟨ds, gs, before, [], pa, pv, hW, hres _ _ _, hargs _ hold, hvars _ hold, World.keptBut_mono (fun p hp => ⟨hp, ?_⟩) (Below.frame hb (· ∈ before)), fun _ => ?_⟩
  · rw [hps, List.mem_append] at hp
    exact Or.inr hp
  · obtain ⟨_, _, _, _, _, hz, hn⟩ := hW
    refine ⟨hok, _, _, ([] ++ pa) ++ pv, ⟨[] ++ pa, pv, trodAll_append (hargs _ (fun _ _ => rfl)) (hres _ _ _), hvars _ (fun _ _ => rfl), rfl, ?_, ?_⟩, ?_⟩
    · intro b off hp
      have hin : MemPlace.cell b off ∈ before := by rw [hps]; simpa using hp
      rw [Below.frozen hb (hlt _ hin)]
      exact hz b off hin
    · intro ha
      have := hn ha
      rw [hps] at this
      simpa using this
    · intro p hp _
      rw [hps]
      simpa using hp
end

/-! ### Division -/
theorem tdiv_neg_bounds (a b : Int) (ha : a ≤ 0) (hb : 1 ≤ b) : a ≤ a.tdiv b ∧ a.tdiv b ≤ 0 ∧ a ≤ a.tdiv b * b ∧ a.tdiv b * b ≤ 0 := by
  obtain ⟨n, rfl⟩ : ∃ n : Nat, a = -(n : Int) := ⟨(-a).toNat, by omega⟩
  obtain ⟨m, rfl⟩ : ∃ m : Nat, b = (m : Int) := ⟨b.toNat, by omega⟩
  rw [Int.neg_tdiv]
  have h : ((n : Int).tdiv (m : Int)) = ((n / m : Nat) : Int) := by simp [Int.tdiv]
  rw [h, Int.neg_mul]
  have h1 : n / m * m ≤ n := Nat.div_mul_le_self _ _
  have h2 : n / m ≤ n := Nat.div_le_self _ _
  generalize n / m = q at *
  have h3 : (q : Int) * (m : Int) = ((q * m : Nat) : Int) := by simp
  rw [h3]
  omega
theorem tdiv_eq (a b : Int) (ha : a ≤ 0) (hb : 1 ≤ b) : (a.tdiv b * b = a → a.tdiv b = a / b) ∧ (a.tdiv b * b ≠ a → a.tdiv b - 1 = a / b) := by
  have h := Int.mul_tdiv_add_tmod a b
  constructor
  · intro h1
    have : a / b = a.tdiv b := by
      conv => lhs; rw [← h1]
      exact Int.mul_ediv_cancel _ (by omega)
    exact this.symm
  · intro h1
    have h0 : a.tdiv b * b = b * a.tdiv b := Int.mul_comm _ _
    have hneg : a.tmod b < 0 := by
      have h2 : a.tmod b ≤ 0 := by
        have := (tdiv_neg_bounds a b ha hb).2.2.1
        omega
      have h3 : a.tmod b ≠ 0 := fun e => h1 (by omega)
      omega
    have hlt : -b < a.tmod b := by
      have := Int.lt_tmod_of_pos a (show 0 < b by omega)
      omega
    have e : a = (a.tmod b + b) + b * (a.tdiv b - 1) := by
      rw [Int.mul_sub]; omega
    conv => rhs; rw [e]
    rw [Int.add_mul_ediv_left _ _ (by omega), Int.ediv_eq_zero_of_lt (by omega) (by omega)]
    omega
theorem ediv_bounds (a b : Int) (hb : 1 ≤ b) : a / b * b ≤ a ∧ a < a / b * b + b := by
  have h1 := Int.mul_ediv_add_emod a b
  have h2 := Int.emod_nonneg a (show b ≠ 0 by omega)
  have h3 := Int.emod_lt_of_pos a (show 0 < b by omega)
  have h4 : a / b * b = b * (a / b) := Int.mul_comm _ _
  omega
theorem emod_def' (a b : Int) : a - b * (a / b) = a % b := by
  have h1 := Int.mul_ediv_add_emod a b
  omega
theorem emod_def'' (a b : Int) : a - a / b * b = a % b := by
  rw [Int.mul_comm]; exact emod_def' a b
theorem ret_int {k : IntKind} {a b : Int} (h : a = b) : Ending.returned (.int k a) = .returned (.int k b) := by rw [h]
theorem ret_bool {a b : Bool} (h : a = b) : Ending.returned (.bool a) = .returned (.bool b) := by rw [h]
theorem wf_bounds {a : Int} (h : (Lit.int .i64 a).wf = true) : -9223372036854775808 ≤ a ∧ a ≤ 9223372036854775807 := by
  have := bounds_i64 h
  omega
theorem wf_bounds8 {a : Int} (h : (Lit.int .u8 a).wf = true) : 0 ≤ a ∧ a ≤ 255 := by
  have := bounds_u8 h
  omega
end Go.Proofs.Ythhaicledbcnmaa

/- Contracts and plain lemmas: Scn1, Scn2, Scn3, Scn4, Scn5. -/
import Derived.Test.YtblaphkaklocfaaGreatDoorG10
import Derived.Test.YtblaphkaklocfaaGreatDoorG21
import Derived.Defers
import Derived.Recover
import Derived.Outline
import Derived.Deep.RegionLaw
set_option linter.unusedSimpArgs false
set_option linter.unusedVariables false
set_option linter.unusedSectionVars false
/- Contracts: the scanner's small functions: next, digit, leading, letter, is, take, must. -/
namespace Go.Proofs.YtblaphkaklocfaaGreatDoor
open Go.ChangeShapes Go.WideShapes Go.ChangeAt Go.RowKit
set_option maxHeartbeats 1000000
set_option maxRecDepth 20000

theorem Kept.grown {w w' : World} (h : Kept w w') (r : Option Nat) : w.grownBy w' r := ⟨h.os, h.tape, h.output, h.size, fun k hk _ => h.block k hk⟩
theorem wr_one (k : Nat) (h : k < 1000000000000) : wrap64 ((k : Int) + 1) = ((k + 1 : Nat) : Int) ∧ IntKind.i64.wrap ((k : Int) + 1) = ((k + 1 : Nat) : Int) := by
  have : wrap64 ((k : Int) + 1) = ((k + 1 : Nat) : Int) := by unfold wrap64; omega
  exact ⟨this, by rw [IntKind.wrap_i64]; omega⟩
/-- A scanner that has not failed. -/
def Scn (w : World) (S : Nat) (s : ByteArray) (k : Nat) : Prop := Blk w S #[.string s, .int .i64 k, .bool false] 191
theorem Scn.kept {w w' : World} {S : Nat} {s : ByteArray} {k : Nat} (h : Scn w S s k) (q : Kept w w') : Scn w' S s k := Blk.kept h q
/-- What a function value answers of a byte. -/
def Says (w : World) (N : Nat) (cap : Array Value) (p : Int → Bool) : Prop :=
  (∀ args w', (callFunc N args).run Tryz.prog w' = .ok (.enter N args) w') ∧
  ∀ c w', 0 ≤ c → c ≤ 255 → Kept w w' → Calls Tryz.prog N (#[.int .u8 c] ++ cap) w' fun e w'' => e = .returned (.bool (p c)) ∧ Kept w' w''
theorem Says.kept {w w' : World} {N : Nat} {cap : Array Value} {p : Int → Bool} (h : Says w N cap p) (q : Kept w w') : Says w' N cap p :=
  ⟨h.1, fun c w2 h1 h2 k => h.2 c w2 h1 h2 (q.trans k)⟩
def digP (c : Int) : Bool := decide (48 ≤ c) && decide (c ≤ 57)
def leaP (c : Int) : Bool := decide (48 < c) && decide (c ≤ 57)
def letP (c : Int) : Bool := decide (97 ≤ c) && decide (c ≤ 122)
theorem digit_says (w : World) : Says w 227 #[] digP := by
  refine ⟨fun args w' => by kernel_rfl, fun c w' h1 h2 hk => ?_⟩
  show Calls Tryz.prog 227 #[.int .u8 c] w' _
  by_cases a1 : 48 ≤ c
  · go_enter Tryz.func227, Tryz.ntmps227
    go_wp2
    go_ret
    exact ⟨by simp [digP, a1], Kept.refl _⟩
  · go_enter Tryz.func227, Tryz.ntmps227
    go_wp2
    go_ret
    exact ⟨by simp [digP]; omega, Kept.refl _⟩
theorem leading_says (w : World) : Says w 226 #[] leaP := by
  refine ⟨fun args w' => by kernel_rfl, fun c w' h1 h2 hk => ?_⟩
  show Calls Tryz.prog 226 #[.int .u8 c] w' _
  by_cases a1 : 48 < c
  · go_enter Tryz.func226, Tryz.ntmps226
    go_wp2
    go_ret
    exact ⟨by simp [leaP, a1], Kept.refl _⟩
  · go_enter Tryz.func226, Tryz.ntmps226
    go_wp2
    go_ret
    exact ⟨by simp [leaP]; omega, Kept.refl _⟩
theorem letter_says (w : World) : Says w 229 #[] letP := by
  refine ⟨fun args w' => by kernel_rfl, fun c w' h1 h2 hk => ?_⟩
  show Calls Tryz.prog 229 #[.int .u8 c] w' _
  by_cases a1 : 97 ≤ c
  · go_enter Tryz.func229, Tryz.ntmps229
    go_wp2
    go_ret
    exact ⟨by simp [letP, a1], Kept.refl _⟩
  · go_enter Tryz.func229, Tryz.ntmps229
    go_wp2
    go_ret
    exact ⟨by simp [letP]; omega, Kept.refl _⟩
theorem is1_says (w : World) (a : Nat) (x : Int) (hl : a < w.heap.size) (h : w.cell? ⟨a, 0, none⟩ = some (.int .u8 x)) : Says w 263 #[.pointer (some ⟨a, 0, none⟩)] (fun c => decide (c = x)) := by
  refine ⟨fun args w' => by kernel_rfl, fun c w' h1 h2 hk => ?_⟩
  show Calls Tryz.prog 263 #[.int .u8 c, .pointer (some ⟨a, 0, none⟩)] w' _
  have h' := (hk.cell a 0 hl).trans h
  go_enter Tryz.func263, Tryz.ntmps263
  go_wp2
  go_ret
  exact ⟨rfl, Kept.refl _⟩
theorem is_ok (x : Int) (w : World) : Calls Tryz.prog 225 #[.int .u8 x] w fun e w' => ∃ a, e = .returned (.func (.func 263) #[] #[.pointer (some ⟨a, 0, none⟩)]) ∧ Says w' 263 #[.pointer (some ⟨a, 0, none⟩)] (fun c => decide (c = x)) ∧ Kept w w' := by
  have hmf : ∀ (fn : Fn) (first cap : Array Value) (w : World), (Instr.makeFunc fn first cap).run Tryz.prog w = .ok (.func fn first cap) w := fun _ _ _ _ => rfl
  go_enter Tryz.func225, Tryz.ntmps225
  go_wp2
  go_ret
  exact ⟨_, rfl, is1_says _ _ x (by simp) (by simp), (by repeat (first | with_reducible exact Kept.refl _ | with_reducible assumption | with_reducible refine Kept.drew ?_ | with_reducible refine Kept.drewN ?_ _ | with_reducible refine Kept.alloc ?_ _ | (with_reducible refine Kept.setCell ?_ (by first | exact Nat.le_refl _ | omega | (simp; done) | (simp; omega)) _) | (with_reducible refine Kept.trans ?_ (by with_reducible assumption))))⟩
theorem next_in (S : Nat) (s : ByteArray) (k : Nat) (w : World) (h : Scn w S s k) (hk : k < s.size) : Calls Tryz.prog 262 #[.pointer (some ⟨S, 0, none⟩)] w fun e w' => e = .returned (.tuple #[.int .u8 (bt s k), .bool true]) ∧ Kept w w' := by
  have c0 : w.cell? ⟨S, 0, none⟩ = some (.string s) := by rw [Blk.cell h]; rfl
  have c1 : w.cell? ⟨S, 1, none⟩ = some (.int .i64 k) := by rw [Blk.cell h]; rfl
  have hkz : (k : Int) < (s.size : Int) := by omega
  have hkz0 : (0 : Int) ≤ (k : Int) := by omega
  have hb := bt_at s k hk
  go_enter Tryz.func262, Tryz.ntmps262
  go_wp2_with fail
  go_region
  go_wp2_with fail
  go_region
  go_wp2
  go_ret2
  exact ⟨by rw [hb]; rfl, (by repeat (first | with_reducible exact Kept.refl _ | with_reducible assumption | with_reducible refine Kept.drew ?_ | with_reducible refine Kept.drewN ?_ _ | with_reducible refine Kept.alloc ?_ _ | (with_reducible refine Kept.setCell ?_ (by first | exact Nat.le_refl _ | omega | (simp; done) | (simp; omega)) _) | (with_reducible refine Kept.trans ?_ (by with_reducible assumption))))⟩
theorem next_end (S : Nat) (s : ByteArray) (k : Nat) (w : World) (h : Scn w S s k) (hk : ¬ k < s.size) : Calls Tryz.prog 262 #[.pointer (some ⟨S, 0, none⟩)] w fun e w' => e = .returned (.tuple #[.int .u8 0, .bool false]) ∧ Kept w w' := by
  have c0 : w.cell? ⟨S, 0, none⟩ = some (.string s) := by rw [Blk.cell h]; rfl
  have c1 : w.cell? ⟨S, 1, none⟩ = some (.int .i64 k) := by rw [Blk.cell h]; rfl
  have hkz : (s.size : Int) ≤ (k : Int) := by omega
  go_enter Tryz.func262, Tryz.ntmps262
  go_wp2_with fail
  go_region
  go_wp2
  go_ret2
  exact ⟨rfl, (by repeat (first | with_reducible exact Kept.refl _ | with_reducible assumption | with_reducible refine Kept.drew ?_ | with_reducible refine Kept.drewN ?_ _ | with_reducible refine Kept.alloc ?_ _ | (with_reducible refine Kept.setCell ?_ (by first | exact Nat.le_refl _ | omega | (simp; done) | (simp; omega)) _) | (with_reducible refine Kept.trans ?_ (by with_reducible assumption))))⟩
def hit (s : ByteArray) (k : Nat) (p : Int → Bool) : Bool := decide (k < s.size) && p (bt s k)
/-- The place behind a byte that is taken if it satisfies a condition. -/
def past (s : ByteArray) (k : Nat) (p : Int → Bool) : Nat := if hit s k p then k + 1 else k
theorem hit_lt {s : ByteArray} {k : Nat} {p : Int → Bool} (h : hit s k p = true) : k < s.size := by
  unfold hit at h
  simp only [Bool.and_eq_true, decide_eq_true_eq] at h
  exact h.1
theorem past_le (s : ByteArray) (k : Nat) (p : Int → Bool) (h : k ≤ s.size) : past s k p ≤ s.size ∧ k ≤ past s k p := by
  unfold past
  split
  · rename_i g
    have := hit_lt g
    omega
  · omega
theorem take_ok (S : Nat) (s : ByteArray) (k N : Nat) (cap : Array Value) (p : Int → Bool) (w : World) (h : Scn w S s k) (hs : s.size ≤ 1000000000000) (hv : Says w N cap p) :
    Calls Tryz.prog 223 #[.pointer (some ⟨S, 0, none⟩), .func (.func N) #[] cap] w fun e w' => e = .returned (.bool (hit s k p)) ∧ Scn w' S s (past s k p) ∧ w.grownBy w' (some S) ∧ (hit s k p = false → Kept w w') := by
  have H := Lib.hid h
  have HV := Lib.hid hv
  have hN := Lib.hid hv.1
  clear h hv
  by_cases hk : k < s.size
  · have KN := Lib.hid (fun w' (q : Kept w w') => next_in S s k w' (H.out.kept q) hk)
    have hb := bt_range s k
    have HH : Hid (hit s k p = p (bt s k)) := (show _ = _ from by simp [hit, hk])
    have HP : Hid (past s k p = if p (bt s k) then k + 1 else k) := (show _ = _ from by unfold past; rw [HH.out])
    generalize bt s k = c at *
    generalize hb2 : p c = b at *
    generalize hit s k p = hh at *
    generalize past s k p = pp at *
    have Hb2 := Lib.hid hb2
    clear hb2
    go_enter Tryz.func223, Tryz.ntmps223
    go_wp2_with fail
    (go_at_call 262; refine (KN.out _ (by (repeat (first | with_reducible assumption | with_reducible exact Kept.refl _ | with_reducible apply Kept.drew | with_reducible apply Kept.alloc | (with_reducible refine Kept.setCell ?_ (by first | exact Nat.le_refl _ | (dsimp only; omega)) _))))).mono ?_; rintro e w1 ⟨rfl, hk1⟩)
    go_wp2_with fail
    rw [hN.out, Oper.upon_enter]
    refine (HV.out.2 c _ hb.1 hb.2 (by (repeat (first | with_reducible assumption | with_reducible exact Kept.refl _ | with_reducible apply Kept.drew | with_reducible apply Kept.alloc | (with_reducible refine Kept.setCell ?_ (by first | exact Nat.le_refl _ | (dsimp only; omega)) _))))).mono ?_
    rintro e w2 ⟨rfl, hk2⟩
    have hS2 := H.out.kept (Kept.trans (by (repeat (first | with_reducible assumption | with_reducible exact Kept.refl _ | with_reducible apply Kept.drew | with_reducible apply Kept.alloc | (with_reducible refine Kept.setCell ?_ (by first | exact Nat.le_refl _ | (dsimp only; omega)) _)))) hk2)
    have kk := Lib.hid (Kept.trans (show Kept w _ from by (repeat (first | with_reducible assumption | with_reducible exact Kept.refl _ | with_reducible apply Kept.drew | with_reducible apply Kept.alloc | (with_reducible refine Kept.setCell ?_ (by first | exact Nat.le_refl _ | (dsimp only; omega)) _)))) hk2)
    have HS2 := Lib.hid hS2
    clear hS2 hb
    cases b with
    | true =>
      obtain rfl : hh = true := by exact HH.out
      obtain rfl : pp = k + 1 := by rw [HP.out, if_pos rfl]
      have d1 : w2.cell? ⟨S, 1, none⟩ = some (.int .i64 k) := by rw [Blk.cell HS2.out]; rfl
      have f1 := Blk.free HS2.out 1
      obtain ⟨hw, hw2⟩ := wr_one k (by omega)
      rw [Hb2.out]
      go_wp2
      go_ret
      exact ⟨rfl, blk_set HS2.out _ (by simp), (kk.out.grown (some S)).trans (grown_setC _ _ _ _), fun h => by simp at h⟩
    | false =>
      obtain rfl : hh = false := by exact HH.out
      obtain rfl : pp = k := by exact HP.out.trans (if_neg (by simp))
      rw [Hb2.out]
      go_wp2
      go_ret
      exact ⟨rfl, HS2.out, (kk.out.grown (some S)), kk.out⟩
  · have KN := Lib.hid (fun w' (q : Kept w w') => next_end S s k w' (H.out.kept q) hk)
    have HH : Hid (hit s k p = false) := (show _ = _ from by simp [hit, hk])
    have HP : Hid (past s k p = k) := (show _ = _ from by unfold past; rw [HH.out]; rfl)
    generalize hit s k p = hh at *
    generalize past s k p = pp at *
    obtain rfl := HH.out
    obtain rfl := HP.out
    go_enter Tryz.func223, Tryz.ntmps223
    go_wp2_with fail
    (go_at_call 262; refine (KN.out _ (by (repeat (first | with_reducible assumption | with_reducible exact Kept.refl _ | with_reducible apply Kept.drew | with_reducible apply Kept.alloc | (with_reducible refine Kept.setCell ?_ (by first | exact Nat.le_refl _ | (dsimp only; omega)) _))))).mono ?_; rintro e w1 ⟨rfl, hk1⟩)
    go_wp2
    go_ret
    exact ⟨rfl, H.out.kept (by repeat (first | with_reducible exact Kept.refl _ | with_reducible assumption | with_reducible refine Kept.drew ?_ | with_reducible refine Kept.drewN ?_ _ | with_reducible refine Kept.alloc ?_ _ | (with_reducible refine Kept.setCell ?_ (by first | exact Nat.le_refl _ | omega | (simp; done) | (simp; omega)) _) | (with_reducible refine Kept.trans ?_ (by with_reducible assumption)))), Kept.grown (by repeat (first | with_reducible exact Kept.refl _ | with_reducible assumption | with_reducible refine Kept.drew ?_ | with_reducible refine Kept.drewN ?_ _ | with_reducible refine Kept.alloc ?_ _ | (with_reducible refine Kept.setCell ?_ (by first | exact Nat.le_refl _ | omega | (simp; done) | (simp; omega)) _) | (with_reducible refine Kept.trans ?_ (by with_reducible assumption)))) _, fun _ => (by repeat (first | with_reducible exact Kept.refl _ | with_reducible assumption | with_reducible refine Kept.drew ?_ | with_reducible refine Kept.drewN ?_ _ | with_reducible refine Kept.alloc ?_ _ | (with_reducible refine Kept.setCell ?_ (by first | exact Nat.le_refl _ | omega | (simp; done) | (simp; omega)) _) | (with_reducible refine Kept.trans ?_ (by with_reducible assumption))))⟩
end Go.Proofs.YtblaphkaklocfaaGreatDoor
/- Contracts: the scanner's must and guard, where nothing fails. -/
namespace Go.Proofs.YtblaphkaklocfaaGreatDoor
open Go.ChangeShapes Go.WideShapes Go.ChangeAt Go.RowKit
set_option maxHeartbeats 1000000
set_option maxRecDepth 20000

/-- Nothing old but some blocks has changed. -/
structure Moved (B : List Nat) (w w' : World) : Prop where
  os : w'.os = w.os
  tape : w'.tape = w.tape
  output : w'.output = w.output
  size : w.heap.size ≤ w'.heap.size
  block : ∀ k, k < w.heap.size → k ∉ B → w'.heap[k]? = w.heap[k]?
theorem Kept.moved {w w' : World} (h : Kept w w') (B : List Nat) : Moved B w w' := ⟨h.os, h.tape, h.output, h.size, fun k hk _ => h.block k hk⟩
theorem moved_grown {w w' : World} {S : Nat} (h : w.grownBy w' (some S)) {B : List Nat} (hB : S ∈ B) : Moved B w w' :=
  ⟨h.os, h.tape, h.output, h.size, fun k hk hn => h.block k hk (fun e => hn (by rw [Option.some.inj e]; exact hB))⟩
theorem Moved.grown {w w' : World} {S : Nat} (h : Moved [S] w w') : w.grownBy w' (some S) :=
  ⟨h.os, h.tape, h.output, h.size, fun k hk hn => h.block k hk (fun e => hn (by rw [List.mem_singleton.1 e]))⟩
theorem Moved.trans {B : List Nat} {a b c : World} (h : Moved B a b) (k : Moved B b c) : Moved B a c :=
  ⟨k.os.trans h.os, k.tape.trans h.tape, k.output.trans h.output, Nat.le_trans h.size k.size, fun i hi hn => (k.block i (Nat.lt_of_lt_of_le hi h.size) hn).trans (h.block i hi hn)⟩
theorem Moved.mono {B C : List Nat} {w w' : World} (h : Moved B w w') (hB : ∀ b ∈ B, b ∈ C) : Moved C w w' := ⟨h.os, h.tape, h.output, h.size, fun k hk hn => h.block k hk (fun e => hn (hB k e))⟩
theorem Moved.blk {B : List Nat} {w w' : World} {b : Nat} {cs : Array Value} {t : TypeId} (h : Blk w b cs t) (m : Moved B w w') (hn : b ∉ B) : Blk w' b cs t := (m.block b h.lt hn).trans h
theorem moved_set (w : World) (b o : Nat) (u : Value) {B : List Nat} (hB : b ∈ B) : Moved B w (w.setCell ⟨b, o, none⟩ u) := moved_grown (grown_setC w b o u) hB
/-- What lies behind the begin may be left aside. -/
theorem Moved.old {B : List Nat} {n : Nat} {a b c : World} (h : Kept a b) (m : Moved (n :: B) b c) (hn : a.heap.size ≤ n) : Moved B a c :=
  ⟨m.os.trans h.os, m.tape.trans h.tape, m.output.trans h.output, Nat.le_trans h.size m.size, fun i hi hni => (m.block i (Nat.lt_of_lt_of_le hi h.size) (fun e => by
    rcases List.mem_cons.1 e with e | e
    · omega
    · exact hni e)).trans (h.block i hi)⟩

theorem must_ok (S : Nat) (s : ByteArray) (k N : Nat) (cap : Array Value) (p : Int → Bool) (w : World) (h : Scn w S s k) (hs : s.size ≤ 1000000000000) (hv : Says w N cap p) (hh : hit s k p = true) :
    Calls Tryz.prog 175 #[.pointer (some ⟨S, 0, none⟩), .func (.func N) #[] cap] w fun e w' => e = .returned (.tuple #[]) ∧ Scn w' S s (k + 1) ∧ w.grownBy w' (some S) := by
  have K := Lib.hid (take_ok S s k N cap p w h hs hv)
  unfold past at K
  rw [hh] at K
  clear h hv hh
  go_enter Tryz.func175, Tryz.ntmps175
  go_wp2_with fail
  go_at_call 223
  (with_reducible refine K.out.mono ?_)
  rintro e w' ⟨rfl, h1, h2, _⟩
  go_wp2
  go_end0
  exact ⟨rfl, h1, h2⟩
theorem guard1_idle (a b : Value) (w : World) :
    CallsD Tryz.prog 222 #[a, b] .returning w fun e u' w' => e = .returned (.tuple #[]) ∧ u' = .returning ∧ w' = w := by
  refine callsD_of_wpS Tryz.func222 rfl fun c₀ cs hu => ?_
  apply wpS_seq
  apply wpS_region
  simp [wpOpsS, go_sem, recoverD, hu, Tryz.ntmps222, Exit.thenS]
  apply wpS_seq
  apply wpS_region
  simp [wpOpsS, go_sem, Exit.thenS]
  refine wpS_cond (t := false) (by simp [Act.eval, Array.replicate]) ?_
  simp only [Bool.false_eq_true, if_false]
  refine wpS_of_wp (wp_skip ?_)
  cases c₀
  simp_all [bodyPostS, results, Tryz.results222]
theorem guard_ok (S : Nat) (s : ByteArray) (k N : Nat) (cap : Array Value) (B : List Nat) (J : World → Prop) (w : World) (h : Scn w S s k) (hB : ∀ b ∈ B, b < w.heap.size)
    (hN : ∀ args w', (callFunc N args).run Tryz.prog w' = .ok (.enter N args) w')
    (hJ : ∀ w2 w', J w2 → Below w.heap.size w2 w' → J w')
    (hv : ∀ w1, Kept w w1 → Calls Tryz.prog N cap w1 fun e w2 => e = .returned (.tuple #[]) ∧ J w2 ∧ Moved B w1 w2) :
    Calls Tryz.prog 173 #[.pointer (some ⟨S, 0, none⟩), .func (.func N) #[] cap] w fun e w' => e = .returned (.bool true) ∧ J w' ∧ Moved B w w' := by
  have hmf : ∀ (fn : Fn) (first cap : Array Value) (w : World), (Instr.makeFunc fn first cap).run Tryz.prog w = .ok (.func fn first cap) w := fun _ _ _ _ => rfl
  have c2 : w.cell? ⟨S, 2, none⟩ = some (.bool false) := by rw [Blk.cell h]; rfl
  have hlS := Blk.lt h
  have HB := Lib.hid hB
  have HJ := Lib.hid hJ
  have HV := Lib.hid hv
  clear h hB hJ hv
  go_enter_defers Tryz.func173, Tryz.ntmps173
  go_wp2_with fail
  refine (HV.out _ (by (repeat (first | with_reducible assumption | with_reducible exact Kept.refl _ | with_reducible apply Kept.drew | with_reducible apply Kept.alloc | (with_reducible refine Kept.setCell ?_ (by first | exact Nat.le_refl _ | (dsimp only; omega)) _))))).mono ?_
  rintro e w2 ⟨rfl, hj, hm⟩
  have bO1 : Blk ((w.alloc (.cells #[.pointer (some ⟨S, 0, none⟩)] 141)).alloc (.cells #[.bool false] 4)) (w.heap.size + 1) #[.bool false] 4 := by
    have := Blk.new (w.alloc (.cells #[.pointer (some ⟨S, 0, none⟩)] 141)) #[.bool false] 4
    simpa using this
  have hnO : w.heap.size + 1 ∉ B := fun hb => by have := HB.out _ hb; omega
  have bO := Moved.blk bO1 hm hnO
  have cO : w2.cell? ⟨w.heap.size + 1, 0, none⟩ = some (.bool false) := by rw [bO.cell]; rfl
  have fO := bO.free 0
  have HO := Lib.hid bO
  have HM := Lib.hid hm
  have Hj := Lib.hid hj
  clear bO1 bO hm hj c2
  go_wp2
  refine leaves_cons (f := 222) (args := #[.pointer (some ⟨w.heap.size, 0, none⟩), .pointer (some ⟨w.heap.size + 1, 0, none⟩)]) (by simp) (by simp [go_sem]) ?_
  refine (guard1_idle _ _ _).mono ?_
  rintro e u' w'' ⟨rfl, rfl, rfl⟩
  have c3 : (w2.setCell ⟨w.heap.size + 1, 0, none⟩ (.bool true)).cell? ⟨w.heap.size + 1, 0, none⟩ = some (.bool true) := by rw [(HO.out.set 0 _).cell]; rfl
  have hk : Kept w ((w.alloc (.cells #[.pointer (some ⟨S, 0, none⟩)] 141)).alloc (.cells #[.bool false] 4)) := ((Kept.refl w).alloc _).alloc _
  have hs2 := HM.out.size
  simp only [World.size_alloc] at hs2
  have r1 : J (w2.setCell ⟨w.heap.size + 1, 0, none⟩ (.bool true)) := HJ.out w2 _ Hj.out (Below.setCell (Below.refl _ _) (by simp) _)
  have r2 : Moved B w (w2.setCell ⟨w.heap.size + 1, 0, none⟩ (.bool true)) := Moved.old (n := w.heap.size + 1) hk ((HM.out.mono (fun b hb => List.mem_cons_of_mem _ hb)).trans (moved_set _ _ _ _ (List.mem_cons_self ..))) (by omega)
  simp [Leaves, settle, results, Tryz.results173, go_sem, c3, r1, r2]
end Go.Proofs.YtblaphkaklocfaaGreatDoor
/- Contract: what the scanner's Word asks of a byte. -/
namespace Go.Proofs.YtblaphkaklocfaaGreatDoor
open Go.ChangeShapes Go.WideShapes Go.ChangeAt Go.RowKit
set_option maxHeartbeats 1000000
set_option maxRecDepth 20000

theorem ne_list {a b : ByteArray} (h : ¬ a = b) : (a.toList == b.toList) = false := by
  rw [ByteArray.toList_eq, ByteArray.toList_eq, beq_eq_false_iff_ne]
  intro e
  exact h (by cases a; cases b; simp at e; rw [e])
/-- A slice of strings in memory. -/
def Strs (w : World) (v : Value) (l : List ByteArray) : Prop := ∃ b c, v = .slice (some ⟨b, 0, none⟩) l.length c ∧ b < w.heap.size ∧ ∀ j, j < l.length → w.cell? ⟨b, j, none⟩ = some (.string l[j]!)
theorem Strs.kept {w w' : World} {v : Value} {l : List ByteArray} (h : Strs w v l) (k : Kept w w') : Strs w' v l := by
  obtain ⟨b, c, e, hb, hc⟩ := h
  exact ⟨b, c, e, Nat.lt_of_lt_of_le hb k.size, fun j hj => (k.cell b _ hb).trans (hc j hj)⟩
/-- A word goes on at its n-th byte with c, and begins as the text does from a place. -/
def preP (w s : ByteArray) (k n : Nat) (c : Int) : Bool := decide (n < w.size) && (decide (bt w n = c) && decide (w.extract 0 n = s.extract k (k + n)))
def anyP (l : List ByteArray) (s : ByteArray) (k n : Nat) (c : Int) : Bool := l.any (fun w => preP w s k n c)
structure W11 (w : World) (S : Nat) (s : ByteArray) (k n : Nat) (l : List ByteArray) (a1 a2 a3 a4 : Nat) (v : Value) : Prop where
  hS : Scn w S s (k + n)
  h1 : Blk w a1 #[v] 54
  h2 : Blk w a2 #[.int .i64 n] 3
  h3 : Blk w a3 #[.pointer (some ⟨S, 0, none⟩)] 141
  h4 : Blk w a4 #[.int .i64 k] 3
  hl : Strs w v l
theorem W11.kept {w w' : World} {S : Nat} {s : ByteArray} {k n : Nat} {l : List ByteArray} {a1 a2 a3 a4 : Nat} {v : Value} (h : W11 w S s k n l a1 a2 a3 a4 v) (q : Kept w w') : W11 w' S s k n l a1 a2 a3 a4 v :=
  ⟨h.hS.kept q, h.h1.kept q, h.h2.kept q, h.h3.kept q, h.h4.kept q, h.hl.kept q⟩
theorem W11_says (S : Nat) (s : ByteArray) (k n : Nat) (l : List ByteArray) (a1 a2 a3 a4 : Nat) (v : Value) (w : World) (h : W11 w S s k n l a1 a2 a3 a4 v) (hs : s.size ≤ 1000000000000) (hkn : k + n ≤ s.size) (hl : l.length ≤ 1000000) (hlw : ∀ x ∈ l, x.size ≤ 1000000) :
    Says w 176 #[.pointer (some ⟨a1, 0, none⟩), .pointer (some ⟨a2, 0, none⟩), .pointer (some ⟨a3, 0, none⟩), .pointer (some ⟨a4, 0, none⟩)] (anyP l s k n) := by
  refine ⟨fun args w' => by kernel_rfl, fun c w' hc1 hc2 hk => ?_⟩
  show Calls Tryz.prog 176 #[.int .u8 c, .pointer (some ⟨a1, 0, none⟩), .pointer (some ⟨a2, 0, none⟩), .pointer (some ⟨a3, 0, none⟩), .pointer (some ⟨a4, 0, none⟩)] w' _
  have H := Lib.hid (h.kept hk)
  clear hk h
  generalize w' = w0 at *
  obtain ⟨b, q, rfl, hb, hcl⟩ := H.out.hl
  have e1 : w0.cell? ⟨a1, 0, none⟩ = some (.slice (some ⟨b, 0, none⟩) l.length q) := by rw [H.out.h1.cell]; rfl
  have HC := Lib.hid hcl
  clear hcl
  go_enter Tryz.func176, Tryz.ntmps176
  go_wp2_with fail
  go_loopw [11] (fun i wr => ∃ j : Nat, j ≤ l.length ∧ i = .int .i64 j ∧ Hid (∀ t, t < j → preP l[t]! s k n c = false) ∧ Kept w0 wr) (fun i _ => (l.length - intOf i).toNat)
  case atStart => exact ⟨0, by omega, rfl, Lib.hid (fun t ht => absurd ht (Nat.not_lt_zero _)), (by repeat (first | with_reducible exact Kept.refl _ | with_reducible assumption | with_reducible refine Kept.drew ?_ | with_reducible refine Kept.drewN ?_ _ | with_reducible refine Kept.alloc ?_ _ | (with_reducible refine Kept.setCell ?_ (by first | exact Nat.le_refl _ | omega | (simp; done) | (simp; omega)) _) | (with_reducible refine Kept.trans ?_ (by with_reducible assumption))))⟩
  case round =>
    obtain ⟨j, hj, rfl, HP, hkr⟩ := hrel
    have kk := Lib.hid hkr
    have HW := Lib.hid (H.out.kept hkr)
    by_cases hlt : j < l.length
    · have e2 : wr.cell? ⟨b, j, none⟩ = some (.string l[j]!) := (hkr.cell b _ hb).trans (HC.out j hlt)
      have hmem : l[j]! ∈ l := by rw [getElem!_pos l j hlt]; exact List.getElem_mem hlt
      have hx := hlw l[j]! hmem
      have d1 : wr.cell? ⟨a2, 0, none⟩ = some (.int .i64 n) := by rw [HW.out.h2.cell]; rfl
      have d2 : wr.cell? ⟨a3, 0, none⟩ = some (.pointer (some ⟨S, 0, none⟩)) := by rw [HW.out.h3.cell]; rfl
      have d3 : wr.cell? ⟨a4, 0, none⟩ = some (.int .i64 k) := by rw [HW.out.h4.cell]; rfl
      have d4 : wr.cell? ⟨S, 0, none⟩ = some (.string s) := by rw [Blk.cell HW.out.hS]; rfl
      have d5 : wr.cell? ⟨S, 1, none⟩ = some (.int .i64 ((k + n : Nat) : Int)) := by rw [Blk.cell HW.out.hS]; rfl
      have hjz : (j : Int) < (l.length : Int) := by omega
      have hkz : (k : Int) ≤ ((k + n : Nat) : Int) := by omega
      have hnz : ((k + n : Nat) : Int) ≤ (s.size : Int) := by omega
      have HX : Hid (preP l[j]! s k n c = (decide (n < l[j]!.size) && (decide (bt l[j]! n = c) && decide (l[j]!.extract 0 n = s.extract k (k + n))))) := (show _ = _ from rfl)
      have HQ : Hid (preP l[j]! s k n c = false → ∀ t, t < j + 1 → preP l[t]! s k n c = false) := (show _ → _ from fun h t ht => by
        by_cases e : t = j
        · rw [e]; exact h
        · exact HP.out t (by omega))
      have HT : Hid (preP l[j]! s k n c = true → anyP l s k n c = true) := (show _ → _ from fun h => List.any_eq_true.2 ⟨l[j]!, hmem, h⟩)
      have HB := Lib.hid (bt_at l[j]! n)
      generalize l[j]! = x at *
      by_cases h1 : n < x.size
      · have hb2 := HB.out h1
        clear HB
        have hnx : n ≤ x.size := by omega
        have hnx2 : (n : Int) ≤ (x.size : Int) := by omega
        have hkk : k ≤ k + n := by omega
        have hk3 : (k : Int) ≤ (k : Int) + (n : Int) := by omega
        have hk4 : (k : Int) + (n : Int) ≤ (s.size : Int) := by omega
        by_cases h2 : bt x n = c
        · have hq : (((x[n]'h1).toNat : Int) == c) = true := by simp [← hb2, h2]
          by_cases h3 : x.extract 0 n = s.extract k (k + n)
          · have HK : Hid (anyP l s k n c = true) := (show _ = _ from HT.out (by rw [HX.out]; simp [h1, h2, h3]))
            clear HQ HT HX
            go_wp2_with fail
            go_region
            go_wp2
            go_ret
            exact ⟨by rw [HK.out]; rfl, (by repeat (first | with_reducible exact Kept.refl _ | with_reducible assumption | with_reducible refine Kept.drew ?_ | with_reducible refine Kept.drewN ?_ _ | with_reducible refine Kept.alloc ?_ _ | (with_reducible refine Kept.setCell ?_ (by first | exact Nat.le_refl _ | omega | (simp; done) | (simp; omega)) _) | (with_reducible refine Kept.trans ?_ (by with_reducible assumption))))⟩
          · have HK := Lib.hid (HQ.out (by rw [HX.out]; simp [h3]))
            have h4 := ne_list h3
            clear HQ HT HX
            go_wp2_with fail
            go_region
            go_wp2
            go_roundw
            case rel => exact ⟨j + 1, by omega, by go_num, HK, (by repeat (first | with_reducible exact Kept.refl _ | with_reducible assumption | with_reducible refine Kept.drew ?_ | with_reducible refine Kept.drewN ?_ _ | with_reducible refine Kept.alloc ?_ _ | (with_reducible refine Kept.setCell ?_ (by first | exact Nat.le_refl _ | omega | (simp; done) | (simp; omega)) _) | (with_reducible refine Kept.trans ?_ (by with_reducible assumption))))⟩
            case measure => simp [intOf]; omega
        · have hq : (((x[n]'h1).toNat : Int) == c) = false := by simp [← hb2]; omega
          have HK := Lib.hid (HQ.out (by rw [HX.out]; simp [h2]))
          clear HQ HT HX
          go_wp2_with fail
          go_region
          go_wp2
          go_roundw
          case rel => exact ⟨j + 1, by omega, by go_num, HK, (by repeat (first | with_reducible exact Kept.refl _ | with_reducible assumption | with_reducible refine Kept.drew ?_ | with_reducible refine Kept.drewN ?_ _ | with_reducible refine Kept.alloc ?_ _ | (with_reducible refine Kept.setCell ?_ (by first | exact Nat.le_refl _ | omega | (simp; done) | (simp; omega)) _) | (with_reducible refine Kept.trans ?_ (by with_reducible assumption))))⟩
          case measure => simp [intOf]; omega
      · clear HB
        have hnx : x.size ≤ n := by omega
        have hnx2 : (x.size : Int) ≤ (n : Int) := by omega
        have HK := Lib.hid (HQ.out (by rw [HX.out]; simp [h1]))
        clear HQ HT HX
        go_wp2_with fail
        go_region
        go_wp2
        go_roundw
        case rel => exact ⟨j + 1, by omega, by go_num, HK, (by repeat (first | with_reducible exact Kept.refl _ | with_reducible assumption | with_reducible refine Kept.drew ?_ | with_reducible refine Kept.drewN ?_ _ | with_reducible refine Kept.alloc ?_ _ | (with_reducible refine Kept.setCell ?_ (by first | exact Nat.le_refl _ | omega | (simp; done) | (simp; omega)) _) | (with_reducible refine Kept.trans ?_ (by with_reducible assumption))))⟩
        case measure => simp [intOf]; omega
    · obtain rfl : j = l.length := by omega
      have HK : Hid (anyP l s k n c = false) := (show _ = _ from List.any_eq_false.2 (fun x hx => by
        obtain ⟨t, ht, rfl⟩ := List.mem_iff_getElem.1 hx
        have := HP.out t ht
        rw [getElem!_pos l t ht] at this
        rw [this]
        simp))
      go_wp2
      go_ret
      exact ⟨by rw [HK.out]; rfl, (by repeat (first | with_reducible exact Kept.refl _ | with_reducible assumption | with_reducible refine Kept.drew ?_ | with_reducible refine Kept.drewN ?_ _ | with_reducible refine Kept.alloc ?_ _ | (with_reducible refine Kept.setCell ?_ (by first | exact Nat.le_refl _ | omega | (simp; done) | (simp; omega)) _) | (with_reducible refine Kept.trans ?_ (by with_reducible assumption))))⟩
end Go.Proofs.YtblaphkaklocfaaGreatDoor
/- Contract: the scanner's Word, where one of the words comes. -/
namespace Go.Proofs.YtblaphkaklocfaaGreatDoor
open Go.ChangeShapes Go.WideShapes Go.ChangeAt Go.RowKit
set_option maxHeartbeats 1000000
set_option maxRecDepth 20000

/-- The i-th word comes at a place of the text; none of the words begins as another one is. -/
structure Comes1 (l : List ByteArray) (s : ByteArray) (k i : Nat) : Prop where
  hi : i < l.length
  h1 : 1 ≤ l[i]!.size
  hs : k + l[i]!.size ≤ s.size
  he : s.extract k (k + l[i]!.size) = l[i]!
  hp : ∀ j, j < l.length → ∀ m, m ≤ l[i]!.size → l[j]! = l[i]!.extract 0 m → j = i ∧ m = l[i]!.size
theorem ext_ext (s : ByteArray) (k m n : Nat) (h : m ≤ n) : (s.extract k (k + n)).extract 0 m = s.extract k (k + m) := by
  rw [ByteArray.extract_extract]
  congr 1
  omega
theorem bt_ext (s : ByteArray) (k m n : Nat) (h : n < m) (hs : k + m ≤ s.size) : bt (s.extract k (k + m)) n = bt s (k + n) := by
  have hz : (s.extract k (k + m)).size = m := by rw [ByteArray.size_extract]; omega
  rw [bt_at _ n (by omega), bt_at _ (k + n) (by omega), ByteArray.getElem_extract]
theorem Comes1.pre {l : List ByteArray} {s : ByteArray} {k i : Nat} (h : Comes1 l s k i) (n : Nat) (hn : n < l[i]!.size) : hit s (k + n) (anyP l s k n) = true := by
  have hlt : k + n < s.size := by have := h.hs; omega
  unfold hit
  rw [decide_eq_true hlt, Bool.true_and]
  refine List.any_eq_true.2 ⟨l[i]!, by rw [getElem!_pos l i h.hi]; exact List.getElem_mem h.hi, ?_⟩
  have hb := bt_ext s k l[i]!.size n hn h.hs
  have he := ext_ext s k n l[i]!.size (by omega)
  rw [h.he] at hb he
  unfold preP
  rw [hb, he]
  simp only [decide_eq_true hn, decide_true, Bool.and_self]
theorem Comes1.at {l : List ByteArray} {s : ByteArray} {k i : Nat} (h : Comes1 l s k i) (n t : Nat) (hn : n ≤ l[i]!.size) (ht : t < l.length) : l[t]! = s.extract k (k + n) ↔ t = i ∧ n = l[i]!.size := by
  have he := ext_ext s k n l[i]!.size hn
  rw [h.he] at he
  constructor
  · exact fun e => h.hp t ht n hn (by rw [he]; exact e)
  · rintro ⟨rfl, e⟩
    rw [e]
    exact h.he.symm
theorem if_iff {α : Type} {a b : Prop} [Decidable a] [Decidable b] (h : a ↔ b) (x y : α) : (if a then x else y) = if b then x else y := by
  by_cases g : a
  · rw [if_pos g, if_pos (h.1 g)]
  · rw [if_neg g, if_neg (fun k => g (h.2 k))]
theorem cell_of_block {w w' : World} {b : Nat} (h : w'.heap[b]? = w.heap[b]?) (j : Nat) : w'.cell? ⟨b, j, none⟩ = w.cell? ⟨b, j, none⟩ := by simp [World.cell?, h]
theorem blk_ne {w : World} {b b' : Nat} {cs cs' : Array Value} {t t' : TypeId} (h : Blk w b cs t) (h' : Blk w b' cs' t') (hne : t ≠ t') : b ≠ b' := by
  rintro rfl
  rw [Blk] at h h'
  rw [h] at h'
  injection h' with e
  injection e with _ e2
  exact hne e2
/-- What Word's closure works on. -/
structure WS (S F a1 a3 a4 : Nat) (s : ByteArray) (k n : Nat) (g : Int) (l : List ByteArray) (v : Value) (w : World) : Prop where
  hS : Scn w S s (k + n)
  hF : Blk w F #[.int .i64 g] 3
  h1 : Blk w a1 #[v] 54
  h3 : Blk w a3 #[.pointer (some ⟨S, 0, none⟩)] 141
  h4 : Blk w a4 #[.int .i64 k] 3
  hn : F ≠ a4
  hl : ∃ b c, v = .slice (some ⟨b, 0, none⟩) l.length c ∧ b < w.heap.size ∧ b ≠ S ∧ b ≠ F ∧ ∀ j, j < l.length → w.cell? ⟨b, j, none⟩ = some (.string l[j]!)
def atOf (w : World) (S : Nat) : Nat := match w.cell? ⟨S, 1, none⟩ with | some (.int _ n) => n.toNat | _ => 0
theorem Scn.at {w : World} {S : Nat} {s : ByteArray} {k : Nat} (h : Scn w S s k) : atOf w S = k := by
  have : w.cell? ⟨S, 1, none⟩ = some (.int .i64 k) := by rw [Blk.cell h]; rfl
  simp [atOf, this]
section
variable {S F a1 a3 a4 : Nat} {s : ByteArray} {k n : Nat} {g : Int} {l : List ByteArray} {v : Value} {w w' : World}
theorem WS.kept (h : WS S F a1 a3 a4 s k n g l v w) (q : Kept w w') : WS S F a1 a3 a4 s k n g l v w' := by
  refine ⟨h.hS.kept q, h.hF.kept q, h.h1.kept q, h.h3.kept q, h.h4.kept q, h.hn, ?_⟩
  obtain ⟨b, c, e, hb, h1, h2, hc⟩ := h.hl
  exact ⟨b, c, e, Nat.lt_of_lt_of_le hb q.size, h1, h2, fun j hj => (q.cell b _ hb).trans (hc j hj)⟩
theorem WS.strs (h : WS S F a1 a3 a4 s k n g l v w) : Strs w v l := by
  obtain ⟨b, c, e, hb, h1, h2, hc⟩ := h.hl
  exact ⟨b, c, e, hb, hc⟩
theorem WS.w11 {a2 : Nat} (h : WS S F a1 a3 a4 s k n g l v w) (h2 : Blk w a2 #[.int .i64 n] 3) : W11 w S s k n l a1 a2 a3 a4 v := ⟨h.hS, h.h1, h2, h.h3, h.h4, h.strs⟩
theorem WS.row {b c : Nat} (h : WS S F a1 a3 a4 s k n g l (.slice (some ⟨b, 0, none⟩) l.length c) w) : b < w.heap.size ∧ ∀ j, j < l.length → w.cell? ⟨b, j, none⟩ = some (.string l[j]!) := by
  obtain ⟨b', c', e, hb, h1, h2, hc⟩ := h.hl
  simp only [Value.slice.injEq, Option.some.injEq, Addr.mk.injEq, true_and, and_true] at e
  obtain ⟨rfl, rfl⟩ := e
  exact ⟨hb, hc⟩
theorem WS.next (h : WS S F a1 a3 a4 s k n g l v w) (hs : Scn w' S s (k + n + 1)) (q : w.grownBy w' (some S)) : WS S F a1 a3 a4 s k (n + 1) g l v w' := by
  have hb : ∀ {b : Nat} {cs : Array Value} {t : TypeId}, Blk w b cs t → t ≠ 191 → Blk w' b cs t := fun hB hne => Blk.grown hB q (fun e => blk_ne hB h.hS hne (Option.some.inj e))
  refine ⟨hs, hb h.hF (by decide), hb h.h1 (by decide), hb h.h3 (by decide), hb h.h4 (by decide), h.hn, ?_⟩
  obtain ⟨b, c, e, hb, h1, h2, hc⟩ := h.hl
  exact ⟨b, c, e, Nat.lt_of_lt_of_le hb q.size, h1, h2, fun j hj => (cell_of_block (q.block b hb (fun e => h1 (Option.some.inj e))) j).trans (hc j hj)⟩
theorem WS.found (h : WS S F a1 a3 a4 s k n g l v w) (u : Int) : WS S F a1 a3 a4 s k n u l v (w.setCell ⟨F, 0, none⟩ (.int .i64 u)) := by
  have hSF : S ≠ F := blk_ne h.hS h.hF (by decide)
  refine ⟨Blk.other h.hS hSF _ _, blk_set h.hF _ rfl, h.h1.other (blk_ne h.h1 h.hF (by decide)) _ _, h.h3.other (blk_ne h.h3 h.hF (by decide)) _ _, h.h4.other (fun e => h.hn e.symm) _ _, h.hn, ?_⟩
  obtain ⟨b, c, e, hb, h1, h2, hc⟩ := h.hl
  exact ⟨b, c, e, by simpa using hb, h1, h2, fun j hj => (cell_of_block (Below.heap_setCell w _ _ b h2) j).trans (hc j hj)⟩
end
theorem Word1_ok (S F a1 a3 : Nat) (s : ByteArray) (k i : Nat) (l : List ByteArray) (b c : Nat) (w : World) (hS : Scn w S s k) (hF : Blk w F #[.int .i64 (-1)] 3) (h1 : Blk w a1 #[.slice (some ⟨b, 0, none⟩) l.length c] 54)
    (h3 : Blk w a3 #[.pointer (some ⟨S, 0, none⟩)] 141) (hb : b < w.heap.size) (hbS : b ≠ S) (hbF : b ≠ F) (hcl : ∀ j, j < l.length → w.cell? ⟨b, j, none⟩ = some (.string l[j]!))
    (hc : Comes1 l s k i) (hs : s.size ≤ 1000000000000) (hl : l.length ≤ 1000000) (hlw : ∀ x ∈ l, x.size ≤ 1000000) :
    Calls Tryz.prog 174 #[.pointer (some ⟨a3, 0, none⟩), .pointer (some ⟨F, 0, none⟩), .pointer (some ⟨a1, 0, none⟩)] w fun e w' => e = .returned (.tuple #[]) ∧ Scn w' S s (k + l[i]!.size) ∧ Blk w' F #[.int .i64 i] 3 ∧ Moved [S, F] w w' := by
  have hmf : ∀ (fn : Fn) (first cap : Array Value) (w : World), (Instr.makeFunc fn first cap).run Tryz.prog w = .ok (.func fn first cap) w := fun _ _ _ _ => rfl
  have c1 : w.cell? ⟨a3, 0, none⟩ = some (.pointer (some ⟨S, 0, none⟩)) := by rw [h3.cell]; rfl
  have c2 : w.cell? ⟨S, 1, none⟩ = some (.int .i64 k) := by rw [Blk.cell hS]; rfl
  have hlS := Blk.lt hS
  have hl3 := h3.lt
  go_enter Tryz.func174, Tryz.ntmps174
  go_wp2_with fail
  have H0 : Hid (WS S F a1 a3 w.heap.size s k 0 (-1) l (.slice (some ⟨b, 0, none⟩) l.length c) (w.alloc (.cells #[.int .i64 k] 3))) := (show WS _ _ _ _ _ _ _ _ _ _ _ _ from
    ⟨hS.kept ((Kept.refl w).alloc _), hF.alloc _, h1.alloc _, h3.alloc _, Blk.new w _ _, (fun e => by have := hF.lt; omega), ⟨b, c, rfl, by simp; omega, hbS, hbF, fun j hj => (((Kept.refl w).alloc _).cell b j hb).trans (hcl j hj)⟩⟩)
  have HZ := Lib.hid hc
  have hz1 := hc.h1
  have hzs := hc.hs
  have hlF := hF.lt
  have HSF := Lib.hid (blk_ne hF hS (by decide))
  clear hS hF h1 h3 hcl c1 c2 hc
  generalize hz : l[i]!.size = z at *
  go_loopw [] (fun wr => ∃ n : Nat, n ≤ z ∧ Hid (WS S F a1 a3 w.heap.size s k n (if n = z then (i : Int) else -1) l (.slice (some ⟨b, 0, none⟩) l.length c) wr) ∧ Hid (Moved [S, F] w wr)) (fun wr => k + z - atOf wr S)
  case atStart => exact ⟨0, by omega, (by rw [if_neg (by omega)]; exact H0), Lib.hid (Kept.moved (by repeat (first | with_reducible exact Kept.refl _ | with_reducible assumption | with_reducible refine Kept.drew ?_ | with_reducible refine Kept.drewN ?_ _ | with_reducible refine Kept.alloc ?_ _ | (with_reducible refine Kept.setCell ?_ (by first | exact Nat.le_refl _ | omega | (simp; done) | (simp; omega)) _) | (with_reducible refine Kept.trans ?_ (by with_reducible assumption)))) _)⟩
  case round =>
    obtain ⟨n, hn, HW, HM⟩ := hrel
    have d1 : wr.cell? ⟨a3, 0, none⟩ = some (.pointer (some ⟨S, 0, none⟩)) := by rw [HW.out.h3.cell]; rfl
    have d3 : wr.cell? ⟨w.heap.size, 0, none⟩ = some (.int .i64 k) := by rw [HW.out.h4.cell]; rfl
    have d4 : wr.cell? ⟨S, 0, none⟩ = some (.string s) := by rw [Blk.cell HW.out.hS]; rfl
    have d5 : wr.cell? ⟨S, 1, none⟩ = some (.int .i64 ((k + n : Nat) : Int)) := by rw [Blk.cell HW.out.hS]; rfl
    have d6 : wr.cell? ⟨F, 0, none⟩ = some (.int .i64 (if n = z then (i : Int) else -1)) := by rw [HW.out.hF.cell]; rfl
    have lS := Blk.lt HW.out.hS
    have l3 := HW.out.h3.lt
    have l4 := HW.out.h4.lt
    have hi0 := HZ.out.hi
    by_cases hlt : n = z
    · subst hlt
      simp only [if_true] at d6 HW
      have hi1 : (0 : Int) ≤ (i : Int) := by omega
      go_wp2
      go_end0
      exact ⟨rfl, by rw [hz]; exact HW.out.hS, HW.out.hF, HM.out⟩
    · simp only [if_neg hlt] at d6 HW
      have hw : wrap64 (((k + n : Nat) : Int) - (k : Int)) = (n : Int) := by unfold wrap64; omega
      have hw2 : IntKind.i64.wrap (((k + n : Nat) : Int) - (k : Int)) = (n : Int) := by rw [IntKind.wrap_i64]; omega
      have hw3 : IntKind.i64.wrap ((k : Int) + (n : Int) - (k : Int)) = (n : Int) := by rw [IntKind.wrap_i64]; omega
      have hw4 : wrap64 ((k : Int) + (n : Int) - (k : Int)) = (n : Int) := by unfold wrap64; omega
      go_wp2_with fail
      go_region
      go_wp2_with fail
      obtain ⟨W1, hW1⟩ : ∃ x, x = (wr.alloc (.cells #[.int .i64 n] 3)).drew := ⟨_, rfl⟩
      rw [← hW1]
      have k1 : Kept wr W1 := by rw [hW1]; exact ((Kept.refl wr).alloc _).drew
      have b2 : Blk W1 wr.heap.size #[.int .i64 n] 3 := by rw [hW1]; exact (Blk.new wr _ _).drew
      have HW1 := HW.out.kept k1
      have hnz : n < z := by omega
      have KM := Lib.hid (must_ok S s (k + n) 176 #[.pointer (some ⟨a1, 0, none⟩), .pointer (some ⟨wr.heap.size, 0, none⟩), .pointer (some ⟨a3, 0, none⟩), .pointer (some ⟨w.heap.size, 0, none⟩)] (anyP l s k n) W1 HW1.hS hs
        (W11_says S s k n l a1 wr.heap.size a3 w.heap.size _ W1 (HW1.w11 b2) hs (by omega) hl hlw) (HZ.out.pre n (by omega)))
      have HWn := Lib.hid HW1
      have hA := Lib.hid (Scn.at HW.out.hS)
      clear hW1 b2 HW1 d1 d3 d4 d5 d6 lS l3 l4 hw hw2 hw3 hw4
      go_at_call 175
      (with_reducible refine KM.out.mono ?_)
      rintro e w2 ⟨rfl, hS2, hg2⟩
      have HW2 := Lib.hid (HWn.out.next hS2 hg2)
      have HM2 := Lib.hid ((HM.out.trans (k1.moved _)).trans (moved_grown hg2 (List.mem_cons_self ..)))
      have e1 : w2.cell? ⟨a1, 0, none⟩ = some (.slice (some ⟨b, 0, none⟩) l.length c) := by rw [HW2.out.h1.cell]; rfl
      have l1 := HW2.out.h1.lt
      clear KM HWn HW HM hS2 hg2 k1
      generalize wr.heap.size = wn at *
      go_wp2_with fail
      go_loopw [23] (fun ir w3 => ∃ j : Nat, j ≤ l.length ∧ ir = .int .i64 j ∧ Hid (WS S F a1 a3 w.heap.size s k (n + 1) (if n + 1 = z ∧ i < j then (i : Int) else -1) l (.slice (some ⟨b, 0, none⟩) l.length c) w3) ∧ Hid (Moved [S, F] w w3)) (fun ir _ => (l.length - intOf ir).toNat)
      case atStart => exact ⟨0, by omega, rfl, (by rw [if_neg (by omega)]; exact HW2), HM2⟩
      case round =>
        as_aux_lemma =>
        obtain ⟨j, hj, rfl, HW3, HM3⟩ := hrel
        by_cases hjl : j < l.length
        · have hrow := HW3.out.row
          have e2 := hrow.2 j hjl
          have lb := hrow.1
          have d1 : wr.cell? ⟨a3, 0, none⟩ = some (.pointer (some ⟨S, 0, none⟩)) := by rw [HW3.out.h3.cell]; rfl
          have d3 : wr.cell? ⟨w.heap.size, 0, none⟩ = some (.int .i64 k) := by rw [HW3.out.h4.cell]; rfl
          have d4 : wr.cell? ⟨S, 0, none⟩ = some (.string s) := by rw [Blk.cell HW3.out.hS]; rfl
          have e3 : wr.cell? ⟨a1, 0, none⟩ = some (.slice (some ⟨b, 0, none⟩) l.length c) := by rw [HW3.out.h1.cell]; rfl
          have d6 : wr.cell? ⟨F, 0, none⟩ = some (.int .i64 (if n + 1 = z ∧ i < j then (i : Int) else -1)) := by rw [HW3.out.hF.cell]; rfl
          have f6 := HW3.out.hF.free 0
          have hjz : (j : Int) < (l.length : Int) := by omega
          have HAT := Lib.hid (HZ.out.at (n + 1) j (by omega) hjl)
          rw [hz] at HAT
          generalize hm : k + (n + 1) = m at *
          have d5 : wr.cell? ⟨S, 1, none⟩ = some (.int .i64 (m : Int)) := by rw [Blk.cell HW3.out.hS, ← hm]; rfl
          have hkm : k ≤ m := by omega
          have hms : m ≤ s.size := by omega
          have hkm2 : (k : Int) ≤ (m : Int) := by omega
          have hms2 : (m : Int) ≤ (s.size : Int) := by omega
          have lS := Blk.lt HW3.out.hS
          have l3 := HW3.out.h3.lt
          have l4 := HW3.out.h4.lt
          have lF := HW3.out.hF.lt
          clear hrow e1 l1
          by_cases he : j = i ∧ n + 1 = z
          · have hx := HAT.out.2 he
            have hq : (l[j]!.toList == (s.extract k m).toList) = true := by rw [hx]; exact beq_self_eq_true _
            have HE := Lib.hid he
            generalize l[j]! = x at *
            clear hx he
            go_wp2_with fail
            go_region
            have hji : (j : Int) = (i : Int) := by have := HE.out.1; omega
            go_wp2
            refine ⟨⟨j + 1, by omega, by go_num, ?_, Lib.hid ((HM3.out.trans (moved_set wr F 0 (.int .i64 i) (List.mem_cons_of_mem _ (List.mem_cons_self ..)))).trans (Kept.moved (by repeat (first | with_reducible exact Kept.refl _ | with_reducible assumption | with_reducible refine Kept.drew ?_ | with_reducible refine Kept.drewN ?_ _ | with_reducible refine Kept.alloc ?_ _ | (with_reducible refine Kept.setCell ?_ (by first | exact Nat.le_refl _ | omega | (simp; done) | (simp; omega)) _) | (with_reducible refine Kept.trans ?_ (by with_reducible assumption)))) _))⟩, by simp [intOf]; omega⟩
            rw [if_pos (show n + 1 = z ∧ i < j + 1 from by have := HE.out; omega)]
            exact Lib.hid ((HW3.out.found _).kept (by repeat (first | with_reducible exact Kept.refl _ | with_reducible assumption | with_reducible refine Kept.drew ?_ | with_reducible refine Kept.drewN ?_ _ | with_reducible refine Kept.alloc ?_ _ | (with_reducible refine Kept.setCell ?_ (by first | exact Nat.le_refl _ | omega | (simp; done) | (simp; omega)) _) | (with_reducible refine Kept.trans ?_ (by with_reducible assumption)))))
          · have hx := ne_list (fun h => he (HAT.out.1 h))
            have HE := Lib.hid he
            generalize l[j]! = x at *
            clear he
            go_wp2_with fail
            go_region
            go_wp2
            refine ⟨⟨j + 1, by omega, by go_num, ?_, Lib.hid (HM3.out.trans (Kept.moved (by repeat (first | with_reducible exact Kept.refl _ | with_reducible assumption | with_reducible refine Kept.drew ?_ | with_reducible refine Kept.drewN ?_ _ | with_reducible refine Kept.alloc ?_ _ | (with_reducible refine Kept.setCell ?_ (by first | exact Nat.le_refl _ | omega | (simp; done) | (simp; omega)) _) | (with_reducible refine Kept.trans ?_ (by with_reducible assumption)))) _))⟩, by simp [intOf]; omega⟩
            rw [if_iff (show (n + 1 = z ∧ i < j + 1) ↔ (n + 1 = z ∧ i < j) from by have := HE.out; omega)]
            exact Lib.hid (HW3.out.kept (by repeat (first | with_reducible exact Kept.refl _ | with_reducible assumption | with_reducible refine Kept.drew ?_ | with_reducible refine Kept.drewN ?_ _ | with_reducible refine Kept.alloc ?_ _ | (with_reducible refine Kept.setCell ?_ (by first | exact Nat.le_refl _ | omega | (simp; done) | (simp; omega)) _) | (with_reducible refine Kept.trans ?_ (by with_reducible assumption)))))
        · obtain rfl : j = l.length := by omega
          go_wp2
          refine ⟨⟨n + 1, by omega, ?_, HM3⟩, by rw [hA.out, Scn.at HW3.out.hS]; omega⟩
          rw [if_iff (show (n + 1 = z) ↔ (n + 1 = z ∧ i < l.length) from by omega)]
          exact HW3
end Go.Proofs.YtblaphkaklocfaaGreatDoor
/- Contracts: the scanner's Word, End, Err, New, where nothing fails. -/
namespace Go.Proofs.YtblaphkaklocfaaGreatDoor
open Go.ChangeShapes Go.WideShapes Go.ChangeAt Go.RowKit
set_option maxHeartbeats 1000000
set_option maxRecDepth 20000

theorem Word_ok (S : Nat) (s : ByteArray) (k i : Nat) (l : List ByteArray) (b c : Nat) (w : World) (hS : Scn w S s k) (hb : b < w.heap.size) (hbS : b ≠ S) (hcl : ∀ j, j < l.length → w.cell? ⟨b, j, none⟩ = some (.string l[j]!))
    (hc : Comes1 l s k i) (hs : s.size ≤ 1000000000000) (hl : l.length ≤ 1000000) (hlw : ∀ x ∈ l, x.size ≤ 1000000) :
    Calls Tryz.prog 120 #[.pointer (some ⟨S, 0, none⟩), .slice (some ⟨b, 0, none⟩) l.length c] w fun e w' => e = .returned (.int .i64 i) ∧ Scn w' S s (k + l[i]!.size) ∧ w.grownBy w' (some S) := by
  have hmf : ∀ (fn : Fn) (first cap : Array Value) (w : World), (Instr.makeFunc fn first cap).run Tryz.prog w = .ok (.func fn first cap) w := fun _ _ _ _ => rfl
  go_enter Tryz.func120, Tryz.ntmps120
  go_wp2_with fail
  obtain ⟨F, hF⟩ : ∃ x, x = w.heap.size + 1 + 1 := ⟨_, rfl⟩
  obtain ⟨W1, hW1⟩ : ∃ x, x = (((w.alloc (.cells #[.pointer (some ⟨S, 0, none⟩)] 141)).alloc (.cells #[.slice (some ⟨b, 0, none⟩) l.length c] 54)).alloc (.cells #[.int .i64 (-1)] 3)) := ⟨_, rfl⟩
  rw [← hW1, ← hF]
  have k1 : Kept w W1 := by rw [hW1]; exact (((Kept.refl w).alloc _).alloc _).alloc _
  have b3 : Blk W1 w.heap.size #[.pointer (some ⟨S, 0, none⟩)] 141 := by rw [hW1]; exact ((Blk.new w _ _).alloc _).alloc _
  have b1 : Blk W1 (w.heap.size + 1) #[.slice (some ⟨b, 0, none⟩) l.length c] 54 := by
    rw [hW1]
    have := (Blk.new (w.alloc (.cells #[.pointer (some ⟨S, 0, none⟩)] 141)) #[.slice (some ⟨b, 0, none⟩) l.length c] 54).alloc (.cells #[.int .i64 (-1)] 3)
    simpa using this
  have bF : Blk W1 F #[.int .i64 (-1)] 3 := by
    rw [hW1, hF]
    have := Blk.new ((w.alloc (.cells #[.pointer (some ⟨S, 0, none⟩)] 141)).alloc (.cells #[.slice (some ⟨b, 0, none⟩) l.length c] 54)) #[.int .i64 (-1)] 3
    simpa using this
  have hlF : w.heap.size ≤ F := by omega
  have hS1 := hS.kept k1
  have hlS := Blk.lt hS
  have KG := Lib.hid (guard_ok S s k 174 #[.pointer (some ⟨w.heap.size, 0, none⟩), .pointer (some ⟨F, 0, none⟩), .pointer (some ⟨w.heap.size + 1, 0, none⟩)] [S, F] (fun w' => Scn w' S s (k + l[i]!.size) ∧ Blk w' F #[.int .i64 i] 3) W1 hS1
    (fun x hx => by
      rcases List.mem_cons.1 hx with e | e
      · rw [e]; exact Blk.lt hS1
      · rw [List.mem_singleton.1 e]; exact bF.lt)
    (fun args w' => by kernel_rfl)
    (fun w2 w' h q => ⟨Blk.below h.1 q (Blk.lt hS1), Blk.below h.2 q bF.lt⟩)
    (fun w1 q => (Word1_ok S F (w.heap.size + 1) w.heap.size s k i l b c w1 (hS1.kept q) (bF.kept q) (b1.kept q) (b3.kept q) (by have := (k1.trans q).size; omega) hbS (by omega) (fun j hj => ((k1.trans q).cell b j hb).trans (hcl j hj)) hc hs hl hlw).mono
      (fun e w2 h => ⟨h.1, ⟨h.2.1, h.2.2.1⟩, h.2.2.2⟩)))
  have hi := hc.hi
  clear hcl hc hS hS1 b3 b1 bF
  go_at_call 173
  (with_reducible refine KG.out.mono ?_)
  rintro e w2 ⟨rfl, ⟨hS2, hF2⟩, hm2⟩
  have e1 : w2.cell? ⟨F, 0, none⟩ = some (.int .i64 i) := by rw [hF2.cell]; rfl
  have lF := hF2.lt
  have HM : Hid (w.grownBy w2 (some S)) := (show World.grownBy _ _ _ from (Moved.old (n := F) k1 (hm2.mono (fun x hx => by
    rcases List.mem_cons.1 hx with e | e
    · rw [e]; simp
    · rw [List.mem_singleton.1 e]; simp)) hlF).grown)
  have HS2 := Lib.hid hS2
  clear hS2 hF2 hm2 KG k1 hW1
  subst hF
  go_wp2
  go_ret
  exact ⟨rfl, HS2.out, HM.out⟩
theorem End1_ok (S : Nat) (s : ByteArray) (a3 : Nat) (w : World) (hS : Scn w S s s.size) (h3 : Blk w a3 #[.pointer (some ⟨S, 0, none⟩)] 141) :
    Calls Tryz.prog 178 #[.pointer (some ⟨a3, 0, none⟩)] w fun e w' => e = .returned (.tuple #[]) ∧ Kept w w' := by
  have c1 : w.cell? ⟨a3, 0, none⟩ = some (.pointer (some ⟨S, 0, none⟩)) := by rw [h3.cell]; rfl
  have c2 : w.cell? ⟨S, 0, none⟩ = some (.string s) := by rw [Blk.cell hS]; rfl
  have c3 : w.cell? ⟨S, 1, none⟩ = some (.int .i64 s.size) := by rw [Blk.cell hS]; rfl
  go_enter Tryz.func178, Tryz.ntmps178
  go_wp2_with fail
  go_region
  go_wp2
  go_end0
  exact ⟨rfl, (by repeat (first | with_reducible exact Kept.refl _ | with_reducible assumption | with_reducible refine Kept.drew ?_ | with_reducible refine Kept.drewN ?_ _ | with_reducible refine Kept.alloc ?_ _ | (with_reducible refine Kept.setCell ?_ (by first | exact Nat.le_refl _ | omega | (simp; done) | (simp; omega)) _) | (with_reducible refine Kept.trans ?_ (by with_reducible assumption))))⟩
theorem End_ok (S : Nat) (s : ByteArray) (w : World) (hS : Scn w S s s.size) :
    Calls Tryz.prog 122 #[.pointer (some ⟨S, 0, none⟩)] w fun e w' => e = .returned (.tuple #[]) ∧ Kept w w' := by
  have hmf : ∀ (fn : Fn) (first cap : Array Value) (w : World), (Instr.makeFunc fn first cap).run Tryz.prog w = .ok (.func fn first cap) w := fun _ _ _ _ => rfl
  go_enter Tryz.func122, Tryz.ntmps122
  go_wp2_with fail
  have KG := Lib.hid (guard_ok S s s.size 178 #[.pointer (some ⟨w.heap.size, 0, none⟩)] [] (fun w' => True) (w.alloc (.cells #[.pointer (some ⟨S, 0, none⟩)] 141)) (hS.kept ((Kept.refl w).alloc _))
    (fun x hx => by simp at hx) (fun args w' => by kernel_rfl) (fun _ _ _ _ => trivial)
    (fun w1 q => (End1_ok S s w.heap.size w1 (hS.kept (((Kept.refl w).alloc _).trans q)) ((Blk.new w _ _).kept q)).mono (fun e w2 h => ⟨h.1, trivial, h.2.moved _⟩)))
  go_at_call 173
  (with_reducible refine KG.out.mono ?_)
  rintro e w2 ⟨rfl, _, hm2⟩
  have HM : Hid (Kept w w2) := (show Kept _ _ from ((Kept.refl w).alloc _).trans ⟨hm2.os, hm2.tape, hm2.output, hm2.size, fun k hk => hm2.block k hk (by simp)⟩)
  go_wp2
  go_end0
  exact ⟨rfl, HM.out⟩
theorem Err_ok (S : Nat) (s : ByteArray) (k : Nat) (w : World) (hS : Scn w S s k) :
    Calls Tryz.prog 78 #[.pointer (some ⟨S, 0, none⟩)] w fun e w' => e = .returned (.int .i64 0) ∧ Kept w w' := by
  have c2 : w.cell? ⟨S, 2, none⟩ = some (.bool false) := by rw [Blk.cell hS]; rfl
  go_enter Tryz.func78, Tryz.ntmps78
  go_wp2
  go_ret
  exact ⟨rfl, (by repeat (first | with_reducible exact Kept.refl _ | with_reducible assumption | with_reducible refine Kept.drew ?_ | with_reducible refine Kept.drewN ?_ _ | with_reducible refine Kept.alloc ?_ _ | (with_reducible refine Kept.setCell ?_ (by first | exact Nat.le_refl _ | omega | (simp; done) | (simp; omega)) _) | (with_reducible refine Kept.trans ?_ (by with_reducible assumption))))⟩
theorem New_ok (s : ByteArray) (w : World) :
    Calls Tryz.prog 76 #[.string s] w fun e w' => e = .returned (.pointer (some ⟨w.heap.size, 0, none⟩)) ∧ Scn w' w.heap.size s 0 ∧ Kept w w' := by
  go_enter Tryz.func76, Tryz.ntmps76
  go_wp2
  go_ret
  exact ⟨rfl, Blk.new w _ _, (by repeat (first | with_reducible exact Kept.refl _ | with_reducible assumption | with_reducible refine Kept.drew ?_ | with_reducible refine Kept.drewN ?_ _ | with_reducible refine Kept.alloc ?_ _ | (with_reducible refine Kept.setCell ?_ (by first | exact Nat.le_refl _ | omega | (simp; done) | (simp; omega)) _) | (with_reducible refine Kept.trans ?_ (by with_reducible assumption))))⟩
end Go.Proofs.YtblaphkaklocfaaGreatDoor

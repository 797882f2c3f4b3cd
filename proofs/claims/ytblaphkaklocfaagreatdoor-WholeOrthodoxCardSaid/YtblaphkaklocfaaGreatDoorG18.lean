/- Contracts and plain lemmas: Row, Swp, Iso, Psr. -/
import Derived.Test.YtblaphkaklocfaaGreatDoorG12
import Derived.Test.YtblaphkaklocfaaGreatDoorG13
import Derived.Test.YtblaphkaklocfaaGreatDoorG16
import Derived.Test.YtblaphkaklocfaaGreatDoorG17
import Derived.Sort.Row
import Derived.Deep.QuietTactic
set_option linter.unusedSimpArgs false
set_option linter.unusedVariables false
set_option linter.unusedSectionVars false
/- A row of candidates that is sorted in place: what it holds. -/
namespace Go.Proofs.YtblaphkaklocfaaGreatDoor
open Go.ChangeShapes Go.WideShapes Go.ChangeAt Go.RowKit Go.Sort
set_option maxHeartbeats 4000000
set_option maxRecDepth 20000

/-- All but the block g is as it was. -/
structure KX (g : Nat) (w w' : World) : Prop where
  os : w'.os = w.os
  tape : w'.tape = w.tape
  output : w'.output = w.output
  size : w.heap.size ≤ w'.heap.size
  block : ∀ k, k < w.heap.size → k ≠ g → w'.heap[k]? = w.heap[k]?
theorem KX.refl (g : Nat) (w : World) : KX g w w := ⟨rfl, rfl, rfl, Nat.le_refl _, fun _ _ _ => rfl⟩
theorem KX.trans {g : Nat} {a b c : World} (h : KX g a b) (k : KX g b c) : KX g a c :=
  ⟨k.os.trans h.os, k.tape.trans h.tape, k.output.trans h.output, Nat.le_trans h.size k.size, fun i hi hg => (k.block i (Nat.lt_of_lt_of_le hi h.size) hg).trans (h.block i hi hg)⟩
theorem KX.of_kept {g : Nat} {a b : World} (h : Kept a b) : KX g a b := ⟨h.os, h.tape, h.output, h.size, fun k hk _ => h.block k hk⟩
theorem KX.drew {g : Nat} {a b : World} (h : KX g a b) : KX g a b.drew := ⟨h.os, h.tape, h.output, h.size, h.block⟩
theorem KX.setCell {g : Nat} {a b : World} (h : KX g a b) (o : Nat) (u : Value) : KX g a (b.setCell ⟨g, o, none⟩ u) :=
  h.trans ⟨rfl, rfl, rfl, by simp [World.setCell], fun k _ hg => Below.heap_setCell _ _ _ _ hg⟩
theorem KX.kept {g : Nat} {w0 a b : World} (h : KX g a b) (k : Kept w0 a) (hg : w0.heap.size ≤ g) : Kept w0 b :=
  ⟨h.os.trans k.os, h.tape.trans k.tape, h.output.trans k.output, Nat.le_trans k.size h.size, fun i hi => (h.block i (Nat.lt_of_lt_of_le hi k.size) (by omega)).trans (k.block i hi)⟩
/-- The block g holds the candidates d, and room for cap. -/
def CRow (w : World) (g cap : Nat) (d : Array Cand) : Prop := ∃ cur : Array Value, Blk w g cur 166 ∧ cur.size = cap * 4 ∧ d.size ≤ cap ∧
  ∀ i, i < d.size → cur[i * 4]? = some (.int .i64 (d[i]!).kind) ∧ cur[i * 4 + 1]? = some (.int .i64 (d[i]!).idx) ∧ cur[i * 4 + 2]? = some (.int .i64 (d[i]!).rank) ∧ cur[i * 4 + 3]? = some (.string (d[i]!).id)
theorem CRow.kept {w w' : World} {g cap : Nat} {d : Array Cand} (h : CRow w g cap d) (k : Kept w w') : CRow w' g cap d := by
  obtain ⟨cur, h1, h2⟩ := h
  exact ⟨cur, h1.kept k, h2⟩
theorem CRow.lt {w : World} {g cap : Nat} {d : Array Cand} (h : CRow w g cap d) : g < w.heap.size := by
  obtain ⟨cur, h1, h2⟩ := h
  exact h1.lt
theorem CRow.drew {w : World} {g cap : Nat} {d : Array Cand} (h : CRow w g cap d) : CRow w.drew g cap d := h
theorem CRow.cells {w : World} {g cap : Nat} {d : Array Cand} (h : CRow w g cap d) (i : Nat) (hi : i < d.size) :
    w.cell? ⟨g, i * 4, none⟩ = some (.int .i64 (d[i]!).kind) ∧ w.cell? ⟨g, i * 4 + 1, none⟩ = some (.int .i64 (d[i]!).idx) ∧ w.cell? ⟨g, i * 4 + 2, none⟩ = some (.int .i64 (d[i]!).rank) ∧ w.cell? ⟨g, i * 4 + 3, none⟩ = some (.string (d[i]!).id) ∧
    w.frozen? ⟨g, i * 4, none⟩ = false ∧ w.frozen? ⟨g, i * 4 + 1, none⟩ = false ∧ w.frozen? ⟨g, i * 4 + 2, none⟩ = false ∧ w.frozen? ⟨g, i * 4 + 3, none⟩ = false := by
  obtain ⟨cur, h1, h2, h3, h4⟩ := h
  obtain ⟨a, b, c, e⟩ := h4 i hi
  exact ⟨(h1.cell _).trans a, (h1.cell _).trans b, (h1.cell _).trans c, (h1.cell _).trans e, h1.free _, h1.free _, h1.free _, h1.free _⟩
/-- A candidate is stored. -/
theorem CRow.store {w : World} {g cap : Nat} {d : Array Cand} (h : CRow w g cap d) (i : Nat) (hi : i < d.size) (c : Cand) :
    CRow ((((w.setCell ⟨g, i * 4, none⟩ (.int .i64 c.kind)).setCell ⟨g, i * 4 + 1, none⟩ (.int .i64 c.idx)).setCell ⟨g, i * 4 + 2, none⟩ (.int .i64 c.rank)).setCell ⟨g, i * 4 + 3, none⟩ (.string c.id)) g cap (d.setIfInBounds i c) := by
  obtain ⟨cur, h1, h2, h3, h4⟩ := h
  refine ⟨_, (((h1.set _ _).set _ _).set _ _).set _ _, by simpa using h2, by simpa using h3, fun k hk => ?_⟩
  have hk2 : k < d.size := by simpa using hk
  obtain ⟨a, b, c', e⟩ := h4 k hk2
  have hz : i * 4 + 3 < cur.size := by omega
  by_cases hik : k = i
  · subst hik
    have e1 : (d.setIfInBounds k c)[k]! = c := by simp [hk2]
    rw [e1]
    simp only [Array.getElem?_setIfInBounds, Array.size_setIfInBounds]
    refine ⟨?_, ?_, ?_, ?_⟩
    · rw [if_neg (by omega), if_neg (by omega), if_neg (by omega), if_pos trivial, if_pos (by omega)]
    · rw [if_neg (by omega), if_neg (by omega), if_pos trivial, if_pos (by omega)]
    · rw [if_neg (by omega), if_pos trivial, if_pos (by omega)]
    · rw [if_pos trivial, if_pos (by omega)]
  · have e1 : (d.setIfInBounds i c)[k]! = d[k]! := getElem!_set_other d i k c hik
    rw [e1]
    simp only [Array.getElem?_setIfInBounds]
    refine ⟨?_, ?_, ?_, ?_⟩
    · rw [if_neg (by omega), if_neg (by omega), if_neg (by omega), if_neg (by omega)]; exact a
    · rw [if_neg (by omega), if_neg (by omega), if_neg (by omega), if_neg (by omega)]; exact b
    · rw [if_neg (by omega), if_neg (by omega), if_neg (by omega), if_neg (by omega)]; exact c'
    · rw [if_neg (by omega), if_neg (by omega), if_neg (by omega), if_neg (by omega)]; exact e
theorem Precedes_ok (a b : Cand) (w : World) : Calls Tryz.prog 316 #[.agg #[.int .i64 a.kind, .int .i64 a.idx, .int .i64 a.rank, .string a.id], .agg #[.int .i64 b.kind, .int .i64 b.idx, .int .i64 b.rank, .string b.id]] w fun e w' => e = .returned (.bool (precC a b)) ∧ Kept w w' := by
  obtain ⟨k1, i1, r1, s1⟩ := a
  obtain ⟨k2, i2, r2, s2⟩ := b
  unfold precC
  dsimp only
  by_cases h1 : r1 = r2
  · rw [if_pos h1]
    by_cases h2 : k1 = k2
    · rw [if_pos h2]
      subst h1 h2
      have hd : decide (i1 < i2) = decide ((i1 : Int) < (i2 : Int)) := by simp
      rw [hd]
      go_enter Tryz.func316, Tryz.ntmps316
      go_wp2
      go_ret
      exact ⟨rfl, (by repeat (first | with_reducible exact Kept.refl _ | with_reducible assumption | with_reducible refine Kept.drew ?_ | with_reducible refine Kept.drewN ?_ _ | with_reducible refine Kept.alloc ?_ _ | (with_reducible refine Kept.setCell ?_ (by first | exact Nat.le_refl _ | omega | (simp; done) | (simp; omega)) _) | (with_reducible refine Kept.trans ?_ (by with_reducible assumption))))⟩
    · rw [if_neg h2]
      have h3 : (k1 == k2) = false := beq_false_of_ne h2
      subst h1
      go_enter Tryz.func316, Tryz.ntmps316
      go_wp2
      go_ret
      exact ⟨rfl, (by repeat (first | with_reducible exact Kept.refl _ | with_reducible assumption | with_reducible refine Kept.drew ?_ | with_reducible refine Kept.drewN ?_ _ | with_reducible refine Kept.alloc ?_ _ | (with_reducible refine Kept.setCell ?_ (by first | exact Nat.le_refl _ | omega | (simp; done) | (simp; omega)) _) | (with_reducible refine Kept.trans ?_ (by with_reducible assumption))))⟩
  · rw [if_neg h1]
    have h3 : (r1 == r2) = false := beq_false_of_ne h1
    go_enter Tryz.func316, Tryz.ntmps316
    go_wp2
    go_ret
    exact ⟨rfl, (by repeat (first | with_reducible exact Kept.refl _ | with_reducible assumption | with_reducible refine Kept.drew ?_ | with_reducible refine Kept.drewN ?_ _ | with_reducible refine Kept.alloc ?_ _ | (with_reducible refine Kept.setCell ?_ (by first | exact Nat.le_refl _ | omega | (simp; done) | (simp; omega)) _) | (with_reducible refine Kept.trans ?_ (by with_reducible assumption))))⟩
end Go.Proofs.YtblaphkaklocfaaGreatDoor
/- Contracts: precedence.order's methods; sort.insertionSort over it. -/
namespace Go.Proofs.YtblaphkaklocfaaGreatDoor
open Go.ChangeShapes Go.WideShapes Go.ChangeAt Go.RowKit Go.Sort
set_option maxHeartbeats 8000000
set_option maxRecDepth 20000

theorem OLen_ok (g n cap : Nat) (w : World) : Calls Tryz.prog 313 #[.slice (some ⟨g, 0, none⟩) n cap] w fun e w' => e = .returned (.int .i64 n) ∧ w = w' := by
  go_enter Tryz.func313, Tryz.ntmps313
  go_wp2
  go_ret
  exact ⟨rfl, rfl⟩
theorem OLess_ok (g cap : Nat) (d : Array Cand) (i j : Nat) (w : World) (h : CRow w g cap d) (hi : i < d.size) (hj : j < d.size) (h1 : d.size ≤ 1000) :
    Calls Tryz.prog 314 #[.slice (some ⟨g, 0, none⟩) d.size cap, .int .i64 i, .int .i64 j] w fun e w' => e = .returned (.bool (precC d[i]! d[j]!)) ∧ Kept w w' := by
  obtain ⟨a0, a1, a2, a3, _⟩ := h.cells i hi
  obtain ⟨b0, b1, b2, b3, _⟩ := h.cells j hj
  have KP := Lib.hid (fun w => Precedes_ok d[i]! d[j]! w)
  have hl := h.lt
  generalize d[i]! = x at *
  generalize d[j]! = y at *
  generalize precC x y = r at *
  have hiz : (i : Int) < (d.size : Int) := by omega
  have hjz : (j : Int) < (d.size : Int) := by omega
  generalize d.size = n at *
  clear h hi hj
  go_enter Tryz.func314, Tryz.ntmps314
  go_wp2_with fail
  go_region_held3 (fun w' => Kept (w) w' ∧ (∀ b o, b < (w).heap.size → w'.cell? ⟨b, o, none⟩ = (w).cell? ⟨b, o, none⟩)) (first | exact held_of (Kept.drew (Kept.refl _)) | exact held_of (Kept.trans (And.left (by assumption)) (by assumption))) (first | (go_at_call 316; refine (KP.out _).mono ?_; rintro e w1 ⟨rfl, hk1⟩))
  go_wp2
  go_ret
  exact ⟨rfl, by first | exact (by repeat (first | with_reducible exact Kept.refl _ | with_reducible assumption | with_reducible refine Kept.drew ?_ | with_reducible refine Kept.drewN ?_ _ | with_reducible refine Kept.alloc ?_ _ | (with_reducible refine Kept.setCell ?_ (by first | exact Nat.le_refl _ | omega | (simp; done) | (simp; omega)) _) | (with_reducible refine Kept.trans ?_ (by with_reducible assumption)))) | exact And.left (by assumption)⟩
theorem OSwap_ok (g cap : Nat) (d : Array Cand) (i j : Nat) (w : World) (h : CRow w g cap d) (hi : i < d.size) (hj : j < d.size) (h1 : d.size ≤ 1000) :
    Calls Tryz.prog 315 #[.slice (some ⟨g, 0, none⟩) d.size cap, .int .i64 i, .int .i64 j] w fun e w' => e = .returned (.tuple #[]) ∧ CRow w' g cap (swp d i j) ∧ KX g w w' := by
  obtain ⟨a0, a1, a2, a3, e0, e1, e2, e3⟩ := h.cells i hi
  obtain ⟨b0, b1, b2, b3, f0, f1, f2, f3⟩ := h.cells j hj
  have hl := h.lt
  obtain ⟨c0, c1, c2, c3, g0, g1, g2, g3⟩ := (h.store i hi d[j]!).cells j (by simpa using hj)
  have HS := Lib.hid (((h.store i hi d[j]!).store j (by simpa using hj) d[i]!).drew)
  have HX := Lib.hid (((((((((KX.refl g w).setCell (i * 4) (.int .i64 (d[j]!).kind)).setCell (i * 4 + 1) (.int .i64 (d[j]!).idx)).setCell (i * 4 + 2) (.int .i64 (d[j]!).rank)).setCell (i * 4 + 3) (.string (d[j]!).id)).setCell (j * 4) (.int .i64 (d[i]!).kind)).setCell (j * 4 + 1) (.int .i64 (d[i]!).idx)).setCell (j * 4 + 2) (.int .i64 (d[i]!).rank)).setCell (j * 4 + 3) (.string (d[i]!).id)).drew
  have HD := Lib.hid (show swp d i j = (d.setIfInBounds i d[j]!).setIfInBounds j d[i]! from rfl)
  rw [← HD.out] at HS
  generalize swp d i j = d' at *
  generalize (d.setIfInBounds i d[j]!)[j]! = z at *
  generalize d[i]! = x at *
  generalize d[j]! = y at *
  have hiz : (i : Int) < (d.size : Int) := by omega
  have hjz : (j : Int) < (d.size : Int) := by omega
  generalize d.size = n at *
  clear h hi hj HD
  go_enter Tryz.func315, Tryz.ntmps315
  go_wp2_with fail
  go_region
  all_goals go_wp2
  all_goals go_end0
  all_goals exact ⟨rfl, HS.out, HX.out⟩
end Go.Proofs.YtblaphkaklocfaaGreatDoor
/- Contracts: sort.insertionSort over candidates; sort.stable, Stable at twenty or fewer. -/
namespace Go.Proofs.YtblaphkaklocfaaGreatDoor
open Go.ChangeShapes Go.WideShapes Go.ChangeAt Go.RowKit Go.Sort
set_option maxHeartbeats 8000000
set_option maxRecDepth 20000

theorem cast_succ (p : Nat) : ((p + 1 : Nat) : Int) = (p : Int) + 1 := by omega
theorem ISort_ok (g cap a b : Nat) (d : Array Cand) (w : World) (h : CRow w g cap d) (hab : a ≤ b) (hb : b ≤ d.size) (hsz : d.size ≤ 1000) :
    Calls Tryz.prog 272 #[.iface 250 (.slice (some ⟨g, 0, none⟩) d.size cap), .int .i64 a, .int .i64 b] w fun e w' => e = .returned (.tuple #[]) ∧ CRow w' g cap (Sort.insertionSort precC d a b) ∧ KX g w w' := by
  have mL : ∀ (v : Value) (w : World), (method 449 250 v "Less").run Tryz.prog w = .ok (314, v) w := fun _ _ => by kernel_rfl
  have mS : ∀ (v : Value) (w : World), (method 449 250 v "Swap").run Tryz.prog w = .ok (315, v) w := fun _ _ => by kernel_rfl
  have HH := Lib.hid h
  clear h
  go_enter Tryz.func272, Tryz.ntmps272
  go_wp2
  go_loopw [6] (fun vi wr => ∃ (i : Nat) (dk : Array Cand), vi = .int .i64 i ∧ a < i ∧ i ≤ b + 1 ∧ dk.size = d.size ∧ Hid (CRow wr g cap dk) ∧ Hid (KX g w wr) ∧ Hid (insOuter precC a b i dk = insOuter precC a b (a + 1) d)) (fun vi _ => b + 1 - (intOf vi).toNat)
  case atStart => exact ⟨a + 1, d, by go_num, by omega, by omega, rfl, HH, KX.refl _ _, rfl⟩
  case round =>
    obtain ⟨i, dk, rfl, hai, hib, hsk, HR, HX, HO⟩ := hrel
    by_cases hlt : i < b
    · have hltz : (i : Int) < (b : Int) := by omega
      go_wp2
      go_loopw [7] (fun vj wr2 => ∃ (j : Nat) (dj : Array Cand), vj = .int .i64 j ∧ a ≤ j ∧ j ≤ i ∧ dj.size = d.size ∧ Hid (CRow wr2 g cap dj) ∧ Hid (KX g w wr2) ∧ Hid (insInner precC a j dj = insInner precC a i dk)) (fun vj _ => (intOf vj).toNat)
      case atStart => exact ⟨i, dk, rfl, by omega, Nat.le_refl _, hsk, HR, HX, rfl⟩
      case round =>
        clear HR HX
        obtain ⟨j, dj, rfl, haj, hji, hsj, HR, HX, HI⟩ := hrel
        have out : Hid ((j ≤ a ∨ precC dj[j]! dj[j - 1]! = false) → insOuter precC a b (i + 1) dj = insOuter precC a b (a + 1) d) := (show _ → _ from fun hs => by
          rw [← HO.out, insOuter_go _ _ _ _ _ hlt, ← HI.out, insInner_stop _ _ _ _ hs])
        by_cases hja : a < j
        · have hjaz : (a : Int) < (j : Int) := by omega
          obtain ⟨p, rfl⟩ : ∃ p, j = p + 1 := ⟨j - 1, by omega⟩
          have KL := Lib.hid (OLess_ok g cap dj (p + 1) p wr HR.out (by omega) (by omega) (by omega))
          have KS := Lib.hid (fun w' (k : Kept wr w') => OSwap_ok g cap dj (p + 1) p w' (HR.out.kept k) (by omega) (by omega) (by omega))
          simp only [hsj, cast_succ] at KL KS
          have e1 : ((p + 1 : Nat) : Int) - 1 = (p : Int) := by omega
          have hsw : (swp dj (p + 1) p).size = d.size := by rw [size_swp]; exact hsj
          have HG := Lib.hid (fun hl => insInner_go precC a (p + 1) dj hja hl)
          simp only [Nat.add_sub_cancel] at HG out
          cases hlv : precC dj[p + 1]! dj[p]! with
          | true =>
            rw [hlv] at KL
            have HG2 := Lib.hid (HG.out hlv)
            generalize swp dj (p + 1) p = ds at *
            clear out hlv HG
            go_wp2_with fail
            go_at_call 314
            (with_reducible refine KL.out.mono ?_)
            rintro e w2 ⟨rfl, hk2⟩
            go_wp2_with fail
            go_at_call 315
            (with_reducible refine (KS.out _ hk2).mono ?_)
            rintro e w3 ⟨rfl, hr3, hx3⟩
            have HR3 := Lib.hid hr3
            have HX3 := Lib.hid (HX.out.trans ((KX.of_kept hk2).trans hx3))
            clear hr3 hx3 hk2 KL KS
            go_wp2
            go_roundw
            case rel => exact ⟨p, ds, by go_num, by omega, by omega, hsw, HR3, HX3, (show _ = _ from by rw [← HI.out, HG2.out])⟩
            case measure => simp [intOf]
          | false =>
            rw [hlv] at KL
            have HO2 := Lib.hid (out.out (.inr hlv))
            clear out hlv HG KS
            go_wp2_with fail
            go_at_call 314
            (with_reducible refine KL.out.mono ?_)
            rintro e w2 ⟨rfl, hk2⟩
            have HR2 := Lib.hid (HR.out.kept hk2)
            have HX2 := Lib.hid (HX.out.trans (KX.of_kept hk2))
            clear hk2 KL
            go_wp2
            go_roundw
            case rel => exact ⟨i + 1, dj, by go_num, by omega, by omega, hsj, HR2, HX2, HO2⟩
            case measure => simp [intOf]; omega
        · have hjaz : ¬ (a : Int) < (j : Int) := by omega
          have HO2 := Lib.hid (out.out (.inl (by omega)))
          clear out
          go_wp2
          go_roundw
          case rel => exact ⟨i + 1, dj, by go_num, by omega, by omega, hsj, HR, HX, HO2⟩
          case measure => simp [intOf]; omega
    · have hltz : ¬ (i : Int) < (b : Int) := by omega
      have HE : Hid (Sort.insertionSort precC d a b = dk) := (show _ = _ from by unfold Sort.insertionSort; rw [← HO.out, insOuter_stop _ _ _ _ _ hlt])
      go_wp2
      go_end0
      exact ⟨rfl, by rw [HE.out]; exact HR.out, HX.out⟩
theorem isort_none (d : Array Cand) (a b : Nat) (h : b ≤ a + 1) : Sort.insertionSort precC d a b = d := by
  unfold Sort.insertionSort
  rw [Sort.insOuter, if_neg (by omega)]
theorem isort_size (d : Array Cand) : (Sort.insertionSort precC d 0 d.size).size = d.size := by
  have := isort_is precC d.toList
  rw [Array.toArray_toList] at this
  rw [this, List.size_toArray, List.length_reverse, isortR_length, Array.length_toList]
abbrev ordV (g n cap : Nat) : Value := .iface 250 (.slice (some ⟨g, 0, none⟩) n cap)
theorem stable_small (g cap : Nat) (d : Array Cand) (w : World) (h : CRow w g cap d) (h20 : d.size ≤ 20) :
    Calls Tryz.prog 252 #[ordV g d.size cap, .int .i64 d.size] w fun e w' => e = .returned (.tuple #[]) ∧ CRow w' g cap (Sort.insertionSort precC d 0 d.size) ∧ KX g w w' := by
  have KI := Lib.hid (ISort_ok g cap 0 d.size d w h (Nat.zero_le _) (Nat.le_refl _) (by omega))
  have hz := isort_size d
  by_cases hc : d.size < 20
  · have h1 : ¬ (20 : Int) ≤ (d.size : Int) := by omega
    have h2 : ¬ (20 : Int) < (d.size : Int) := by omega
    clear h h20 hz
    generalize Sort.insertionSort precC d 0 d.size = r at *
    generalize d.size = n at *
    go_enter Tryz.func252, Tryz.ntmps252
    go_wp2
    refine wp_loop_rounds 1 ?_
    rw [rounds_succ]
    go_wp2_with (go_at_call 272; refine KI.out.mono ?_; rintro e w1 ⟨rfl, hr1, hx1⟩)
    refine wp_loop_rounds 1 ?_
    rw [rounds_succ]
    go_wp2
    go_end0
    exact ⟨rfl, hr1, hx1⟩
  · have hn : d.size = 20 := by omega
    have KJ := Lib.hid (fun w' (hr : CRow w' g cap (Sort.insertionSort precC d 0 d.size)) => ISort_ok g cap 20 20 _ w' hr (Nat.le_refl _) (by omega) (by omega))
    simp only [isort_none _ 20 20 (by omega), hz] at KJ
    rw [hn] at KI KJ ⊢
    clear h h20 hz
    generalize Sort.insertionSort precC d 0 20 = r at *
    go_enter Tryz.func252, Tryz.ntmps252
    go_wp2
    refine wp_loop_rounds 2 ?_
    rw [rounds_succ]
    go_wp2_with (go_at_call 272; refine KI.out.mono ?_; rintro e w1 ⟨rfl, hr1, hx1⟩)
    rw [rounds_succ]
    go_wp2_with (go_at_call 272; refine (KJ.out _ hr1).mono ?_; rintro e w2 ⟨rfl, hr2, hx2⟩)
    refine wp_loop_rounds 1 ?_
    rw [rounds_succ]
    go_wp2
    go_end0
    exact ⟨rfl, hr2, hx1.trans hx2⟩
/-- sort.stable does what it says at this many elements. -/
def StableAt (n : Nat) : Prop := ∀ (g cap : Nat) (d : Array Cand) (w : World), d.size = n → CRow w g cap d →
    Calls Tryz.prog 252 #[ordV g d.size cap, .int .i64 d.size] w fun e w' => e = .returned (.tuple #[]) ∧ CRow w' g cap (Sort.insertionSort precC d 0 d.size) ∧ KX g w w'
theorem stableAt_small (n : Nat) (h : n ≤ 20) : StableAt n := fun g cap d w hd hr => stable_small g cap d w hr (by omega)
theorem Stable_ok (g cap : Nat) (d : Array Cand) (w : World) (hS : StableAt d.size) (h : CRow w g cap d) :
    Calls Tryz.prog 213 #[ordV g d.size cap] w fun e w' => e = .returned (.tuple #[]) ∧ CRow w' g cap (Sort.insertionSort precC d 0 d.size) ∧ KX g w w' := by
  have mL : ∀ (v : Value) (w : World), (method 449 250 v "Len").run Tryz.prog w = .ok (313, v) w := fun _ _ => by kernel_rfl
  have KS := Lib.hid (hS g cap d w rfl h)
  have KN := Lib.hid (fun w => OLen_ok g d.size cap w)
  clear h hS
  generalize Sort.insertionSort precC d 0 d.size = r at *
  generalize d.size = n at *
  go_enter Tryz.func213, Tryz.ntmps213
  go_wp2_with fail
  go_at_call 313
  (with_reducible refine (KN.out _).mono ?_)
  rintro e wx ⟨rfl, rfl⟩
  go_wp2_with fail
  go_at_call 252
  (with_reducible refine KS.out.mono ?_)
  rintro e w1 ⟨rfl, hr1, hx1⟩
  go_wp2
  go_end0
  exact ⟨rfl, hr1, hx1⟩
end Go.Proofs.YtblaphkaklocfaaGreatDoor
/- Contract: precedence.Sort. -/
namespace Go.Proofs.YtblaphkaklocfaaGreatDoor
open Go.ChangeShapes Go.WideShapes Go.ChangeAt Go.RowKit Go.Sort
set_option maxHeartbeats 8000000
set_option maxRecDepth 20000

theorem flatC_at (l : List Cand) (i : Nat) (h : i < l.length) : (flatC l)[i * 4]? = some (.int .i64 (l[i]!).kind) ∧ (flatC l)[i * 4 + 1]? = some (.int .i64 (l[i]!).idx) ∧ (flatC l)[i * 4 + 2]? = some (.int .i64 (l[i]!).rank) ∧ (flatC l)[i * 4 + 3]? = some (.string (l[i]!).id) := by
  induction l generalizing i with
  | nil => simp at h
  | cons x s ih =>
    have e : flatC (x :: s) = .int .i64 x.kind :: .int .i64 x.idx :: .int .i64 x.rank :: .string x.id :: flatC s := rfl
    rw [e]
    cases i with
    | zero => simp
    | succ i =>
      have := ih i (by simpa using h)
      have h1 : (i + 1) * 4 = i * 4 + 4 := by omega
      rw [h1]
      simpa using this
/-- A row of the call's own that holds candidates is one that can be sorted. -/
theorem crow_of_owns {w : World} {b n : Nat} {g cap : Nat} {l : List Cand} (h : w.ownsRow b 166 4 (.slice (some ⟨g, 0, none⟩) n cap) l.length (flatC l)) : CRow w g cap l.toArray ∧ b ≤ g := by
  obtain ⟨h1, ⟨h2, _⟩ | ⟨g', cap', cur, h3, h4, h5, h6, h7, h8, h9⟩⟩ := h
  · cases h2
  · simp only [Value.slice.injEq, Option.some.injEq, Addr.mk.injEq, and_true, true_and] at h3
    obtain ⟨rfl, _, rfl⟩ := h3
    refine ⟨⟨cur, h5, h8, by simpa using h6, fun i hi => ?_⟩, h4⟩
    have hi2 : i < l.length := by simpa using hi
    have e : ∀ c, c < 4 → cur[i * 4 + c]? = (flatC l)[i * 4 + c]? := fun c hc => by
      rw [← h9, List.getElem?_take, if_pos (by omega), Array.getElem?_toList]
    obtain ⟨a0, a1, a2, a3⟩ := flatC_at l i hi2
    have e1 : l.toArray[i]! = l[i]! := by simp
    rw [e1]
    exact ⟨(e 0 (by omega)).trans a0, (e 1 (by omega)).trans a1, (e 2 (by omega)).trans a2, (e 3 (by omega)).trans a3⟩
theorem owns_of_crow {w : World} {b g cap : Nat} {d : Array Cand} (h : CRow w g cap d) (hb : b ≤ g) (hc : cap ≤ maxLen) : w.ownsRow b 166 4 (.slice (some ⟨g, 0, none⟩) d.size cap) d.size (flatC d.toList) := by
  obtain ⟨cur, h1, h2, h3, h4⟩ := h
  refine ⟨by rw [flatC_len, Array.length_toList], .inr ⟨g, cap, cur, rfl, hb, h1, h3, hc, h2, ?_⟩⟩
  apply List.ext_getElem?
  intro t
  by_cases ht : t < d.size * 4
  · rw [List.getElem?_take, if_pos ht, Array.getElem?_toList]
    obtain ⟨i, c, rfl, hc4⟩ : ∃ i c, t = i * 4 + c ∧ c < 4 := ⟨t / 4, t % 4, by omega, by omega⟩
    have hi : i < d.size := by omega
    obtain ⟨a0, a1, a2, a3⟩ := h4 i hi
    obtain ⟨b0, b1, b2, b3⟩ := flatC_at d.toList i (by simpa using hi)
    have e1 : d.toList[i]! = d[i]! := by rw [getElem!_pos d.toList i (by simpa using hi), getElem!_pos d i hi]; simp
    rw [e1] at b0 b1 b2 b3
    match c, hc4 with
    | 0, _ => exact a0.trans b0.symm
    | 1, _ => exact a1.trans b1.symm
    | 2, _ => exact a2.trans b2.symm
    | 3, _ => exact a3.trans b3.symm
  · rw [List.getElem?_take, if_neg ht]
    symm
    rw [List.getElem?_eq_none]
    rw [flatC_len, Array.length_toList]
    omega
theorem owns_cap {w : World} {b n s m : Nat} {e : TypeId} {g cap : Nat} {xs : List Value} (h : w.ownsRow b e s (.slice (some ⟨g, 0, none⟩) m cap) n xs) : cap ≤ maxLen := by
  obtain ⟨h1, ⟨h2, _⟩ | ⟨g', cap', cur, h3, h4, h5, h6, h7, h8, h9⟩⟩ := h
  · cases h2
  · simp only [Value.slice.injEq, Option.some.injEq, Addr.mk.injEq, and_true, true_and] at h3
    obtain ⟨rfl, _, rfl⟩ := h3
    exact h7
theorem PSort_ok (b : Nat) (v : Value) (l : List Cand) (w : World) (h : w.ownsRow b 166 4 v l.length (flatC l)) (h1 : 1 ≤ l.length) (h2 : l.length ≤ 1000) (hS : StableAt l.length) :
    Calls Tryz.prog 156 #[v] w fun e w' => ∃ v', e = .returned v' ∧ w'.ownsRow w.heap.size 166 4 v' (sortC l).length (flatC (sortC l)) ∧ Kept w w' := by
  obtain ⟨i0, hi, hz0, hz1, hz2⟩ := info_parts info_cand
  obtain ⟨g, cap, rfl⟩ : ∃ g cap, v = .slice (some ⟨g, 0, none⟩) l.length cap := by
    obtain ⟨_, ⟨_, h0⟩ | ⟨g', cap', cur, rfl, _⟩⟩ := h
    · omega
    · exact ⟨_, _, rfl⟩
  have KC : Hid (Calls Tryz.prog 212 #[.slice (some ⟨g, 0, none⟩) l.length cap] w fun e w' => ∃ g' cap', e = .returned (.slice (some ⟨g', 0, none⟩) l.length cap') ∧ w.heap.size ≤ g' ∧ cap' ≤ maxLen ∧ CRow w' g' cap' l.toArray ∧ Kept w w') := (show _ from by
    have := AnyE.slices_Clone Tryz.cloneCand i0 (.agg #[.int .i64 0, .int .i64 0, .int .i64 0, .string ⟨#[]⟩]) 4 40 hi hz0 hz1 hz2 rfl (by decide) Tryz.sizeOf166 g 0 l.length cap (flatC l) w (by rw [flatC_len]) (by unfold maxLen; omega) (by omega)
      (fun j u hu => by have := h.cells (g := g) rfl j u hu; rw [Addr.add_lit] at this; exact this) (flatC_one l)
    refine this.mono ?_
    rintro e w' ⟨v', rfl, hown, hne, hk⟩
    obtain ⟨_, ⟨_, h0⟩ | ⟨g', cap', cur, rfl, hg, _⟩⟩ := id hown
    · omega
    · exact ⟨g', cap', rfl, hg, owns_cap hown, (crow_of_owns hown).1, hk⟩)
  have KS := Lib.hid (fun g' cap' w' (hr : CRow w' g' cap' l.toArray) => Stable_ok g' cap' l.toArray w' (by simpa using hS) hr)
  have hd : l.toArray.size = l.length := by simp
  have he : Sort.insertionSort precC l.toArray 0 l.toArray.size = (sortC l).toArray := isort_is precC l
  rw [he, hd] at KS
  have hl : (sortC l).length = l.length := by unfold sortC; rw [List.length_reverse, isortR_length]
  have HL := Lib.hid hl
  clear h hS he hd hl
  generalize l.length = n at *
  generalize sortC l = s at *
  go_enter Tryz.func156, Tryz.ntmps156
  go_wp2_with fail
  go_at_call 212
  (with_reducible refine KC.out.mono ?_)
  rintro e w1 ⟨g', cap', rfl, hg', hcap, hr, hk1⟩
  go_wp2_with fail
  go_at_call 213
  (with_reducible refine (KS.out g' cap' w1 hr).mono ?_)
  rintro e w2 ⟨rfl, hr2, hx2⟩
  go_wp2
  go_ret
  refine ⟨_, rfl, ?_, hx2.kept hk1 hg'⟩
  have := owns_of_crow hr2 hg' hcap
  simp only [List.size_toArray, List.toList_toArray] at this
  rw [HL.out] at this ⊢
  exact this
end Go.Proofs.YtblaphkaklocfaaGreatDoor

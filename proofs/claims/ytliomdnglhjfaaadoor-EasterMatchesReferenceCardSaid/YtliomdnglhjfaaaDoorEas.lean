/- Contracts: package easter. -/
import Derived.Test.YtliomdnglhjfaaaDoorPas
import Derived.Outline
set_option linter.unusedSimpArgs false
set_option linter.unusedVariables false
set_option linter.unusedSectionVars false
namespace Go.Proofs.YtliomdnglhjfaaaDoor
open Go.ChangeShapes Go.WideShapes Go.ChangeAt Go.RowKit
set_option maxHeartbeats 800000

def moonV (c y : Int) : Int := if flE c y = 0 then eqN c y + moonI c y else 0
def esV (c y : Int) : Int := if flE c y = 0 then esN c y else 0
theorem eas1_of (c y x : Int) (b1 b2 : Nat) (w : World) (hT : RTab w) (hc : Sm c) (h1 : w.cell? ⟨b1, 0, none⟩ = some (.int .i64 c)) (h2 : w.cell? ⟨b2, 0, none⟩ = some (.int .i64 y)) :
    Calls Tryd.prog 69 #[.int .i64 x, .pointer (some ⟨b1, 0, none⟩), .pointer (some ⟨b2, 0, none⟩)] w fun e w' => e = .returned (.tuple #[.int .i64 (moonV c y), .int .i64 (flE c y)]) ∧ Kept w w' := by
  have KT := Lib.hid (fun w' (k : Kept w w') => hT.kept k)
  have hz1 := lt_cellL h1
  have hz2 := lt_cellL h2
  have KM := Lib.hid (fun w' (k : Kept w w') => FullMoon_any c y w' (hT.kept k) hc)
  rcases fl_cases c y with ⟨hf, e0⟩ | ⟨hf, e0⟩ | ⟨hf, e0⟩
  · have hm := moonI_bounds c y
    obtain ⟨d1, d2⟩ := day_c c y (moonI c y) hf (by omega) (by omega)
    have KD := Lib.hid (fun w' (k : Kept w w') => CToDay_all c y (dmo (moonI c y)) (dda (moonI c y)) w' (hT.kept k).1)
    rw [d1, d2] at KD
    have hv : moonV c y = eqN c y + moonI c y := if_pos e0
    rw [e0, if_pos rfl] at KM
    rw [hv, e0]
    clear hT d1 d2 hv hf e0 hc
    go_enter Tryd.func69, Tryd.ntmps69
    go_wp2_with fail
    go_wp2_with fail
    (go_at_call 20; refine (KM.out _ (by repeat (first | with_reducible exact Kept.refl _ | with_reducible assumption | with_reducible refine Kept.drew ?_ | with_reducible refine Kept.drewN ?_ _ | with_reducible refine Kept.alloc ?_ _ | (with_reducible refine Kept.setCell ?_ (by first | exact Nat.le_refl _ | omega | (simp; done) | (simp; omega)) _) | (with_reducible refine Kept.trans ?_ (by with_reducible assumption))))).mono ?_; rintro e w1 ⟨rfl, hk1⟩)
    have q1 := (hk1.cell _ _ hz1).trans h1
    have q2 := (hk1.cell _ _ hz2).trans h2
    have z1 := lt_cellL q1
    have z2 := lt_cellL q2
    go_wp2_with fail
    (go_at_call 58; refine (KD.out _ (by repeat (first | with_reducible exact Kept.refl _ | with_reducible assumption | with_reducible refine Kept.drew ?_ | with_reducible refine Kept.drewN ?_ _ | with_reducible refine Kept.alloc ?_ _ | (with_reducible refine Kept.setCell ?_ (by first | exact Nat.le_refl _ | omega | (simp; done) | (simp; omega)) _) | (with_reducible refine Kept.trans ?_ (by with_reducible assumption))))).mono ?_; rintro e w2 ⟨rfl, hk2⟩)
    have hB2_2 := hk2
    obtain ⟨hc2_2, hf2_2⟩ := kept_cells hB2_2
    have hz2_0_2 : w1.heap.size < w2.heap.size := by have := hB2_2.size; simp at this; omega
    go_wp2
    go_ret2
    exact ⟨rfl, (by repeat (first | with_reducible exact Kept.refl _ | with_reducible assumption | with_reducible refine Kept.drew ?_ | with_reducible refine Kept.drewN ?_ _ | with_reducible refine Kept.alloc ?_ _ | (with_reducible refine Kept.setCell ?_ (by first | exact Nat.le_refl _ | omega | (simp; done) | (simp; omega)) _) | (with_reducible refine Kept.trans ?_ (by with_reducible assumption))))⟩
  all_goals
    have hv : moonV c y = 0 := by unfold moonV; rw [if_neg (by omega)]
    rw [e0, if_neg (by decide)] at KM
    rw [hv, e0]
    clear hT hv hf e0 hc
    go_enter Tryd.func69, Tryd.ntmps69
    go_wp2_with fail
    (go_at_call 20; refine (KM.out _ (by repeat (first | with_reducible exact Kept.refl _ | with_reducible assumption | with_reducible refine Kept.drew ?_ | with_reducible refine Kept.drewN ?_ _ | with_reducible refine Kept.alloc ?_ _ | (with_reducible refine Kept.setCell ?_ (by first | exact Nat.le_refl _ | omega | (simp; done) | (simp; omega)) _) | (with_reducible refine Kept.trans ?_ (by with_reducible assumption))))).mono ?_; rintro e w1 ⟨rfl, hk1⟩)
    have q1 := (hk1.cell _ _ hz1).trans h1
    have q2 := (hk1.cell _ _ hz2).trans h2
    go_wp2
    go_ret2
    exact ⟨rfl, (by repeat (first | with_reducible exact Kept.refl _ | with_reducible assumption | with_reducible refine Kept.drew ?_ | with_reducible refine Kept.drewN ?_ _ | with_reducible refine Kept.alloc ?_ _ | (with_reducible refine Kept.setCell ?_ (by first | exact Nat.le_refl _ | omega | (simp; done) | (simp; omega)) _) | (with_reducible refine Kept.trans ?_ (by with_reducible assumption))))⟩
theorem eas2_of (n : Int) (w : World) (h : -1000 ≤ n) (h' : n ≤ 1000000000000) :
    Calls Tryd.prog 70 #[.int .i64 n] w fun e w' => e = .returned (.tuple #[.int .i64 (n + 1 + -(n + 1) % 7), .int .i64 0]) ∧ Kept w w' := by
  have KO := Lib.hid (fun w => OnOrAfter_ok (n + 1) 0 w (by omega) (by omega) (by omega) (by omega))
  go_enter Tryd.func70, Tryd.ntmps70
  go_wp2_with fail
  (go_at_call 71; refine (KO.out _).mono ?_; rintro e w1 ⟨rfl, hk1⟩)
  go_wp2
  go_ret2
  exact ⟨rfl, (by repeat (first | with_reducible exact Kept.refl _ | with_reducible assumption | with_reducible refine Kept.drew ?_ | with_reducible refine Kept.drewN ?_ _ | with_reducible refine Kept.alloc ?_ _ | (with_reducible refine Kept.setCell ?_ (by first | exact Nat.le_refl _ | omega | (simp; done) | (simp; omega)) _) | (with_reducible refine Kept.trans ?_ (by with_reducible assumption))))⟩
/-- A chain lies in the block b, and may be written. -/
def Cblk (w : World) (b : Nat) (y m d : Value) : Prop := w.heap[b]? = some (.cells #[y, m, d] 69 (0, 0))
theorem Cblk.kept {w w' : World} {b : Nat} {y m d : Value} (h : Cblk w b y m d) (k : Kept w w') : Cblk w' b y m d := (k.block b (Array.getElem?_eq_some_iff.1 h).1).trans h
theorem Cblk.lt {w : World} {b : Nat} {y m d : Value} (h : Cblk w b y m d) : b < w.heap.size := (Array.getElem?_eq_some_iff.1 h).1
theorem Cblk.cells {w : World} {b : Nat} {y m d : Value} (h : Cblk w b y m d) : w.cell? ⟨b, 0, none⟩ = some y ∧ w.cell? ⟨b, 1, none⟩ = some m ∧ w.cell? ⟨b, 2, none⟩ = some d ∧ w.frozen? ⟨b, 0, none⟩ = false ∧ w.frozen? ⟨b, 1, none⟩ = false ∧ w.frozen? ⟨b, 2, none⟩ = false := by
  unfold Cblk at h
  simp [World.cell?, World.frozen?, h]
theorem Cblk.new (w : World) (y m d : Value) : Cblk (w.alloc (.cells #[y, m, d] 69)) w.heap.size y m d := by
  show (w.heap.push _)[w.heap.size]? = _
  exact Array.getElem?_push_size
theorem Cblk.alloc {w : World} {b : Nat} {y m d : Value} (h : Cblk w b y m d) (o : Obj) : Cblk (w.alloc o) b y m d := h.kept ((Kept.refl w).alloc o)
theorem Cblk.set0 {w : World} {b : Nat} {y m d : Value} (h : Cblk w b y m d) (u : Value) : Cblk (w.setCell ⟨b, 0, none⟩ u) b u m d := by
  obtain ⟨hlt, hk⟩ := Array.getElem?_eq_some_iff.1 h
  show (w.heap.modify b _)[b]? = _
  rw [Array.getElem?_eq_getElem (by rw [Array.size_modify]; exact hlt), Array.getElem_modify_self, hk]
  rfl
theorem Cblk.set1 {w : World} {b : Nat} {y m d : Value} (h : Cblk w b y m d) (u : Value) : Cblk (w.setCell ⟨b, 1, none⟩ u) b y u d := by
  obtain ⟨hlt, hk⟩ := Array.getElem?_eq_some_iff.1 h
  show (w.heap.modify b _)[b]? = _
  rw [Array.getElem?_eq_getElem (by rw [Array.size_modify]; exact hlt), Array.getElem_modify_self, hk]
  rfl
theorem Cblk.set2 {w : World} {b : Nat} {y m d : Value} (h : Cblk w b y m d) (u : Value) : Cblk (w.setCell ⟨b, 2, none⟩ u) b y m u := by
  obtain ⟨hlt, hk⟩ := Array.getElem?_eq_some_iff.1 h
  show (w.heap.modify b _)[b]? = _
  rw [Array.getElem?_eq_getElem (by rw [Array.size_modify]; exact hlt), Array.getElem_modify_self, hk]
  rfl
theorem Cblk.other {w : World} {b b' : Nat} {y m d : Value} (h : Cblk w b y m d) (hne : b ≠ b') (o : Nat) (u : Value) : Cblk (w.setCell ⟨b', o, none⟩ u) b y m d :=
  (Below.heap_setCell w _ u b hne).trans h
theorem cell_new (w : World) (v : Value) (T : TypeId) : (w.alloc (.cells #[v] T)).cell? ⟨w.heap.size, 0, none⟩ = some v := by
  have := World.cell?_alloc_mark w #[v] T (0, 0) 0
  rw [this]
  rfl
theorem cell_next {w : World} {b o : Nat} {v : Value} (h : w.cell? ⟨b, o, none⟩ = some v) (x : Obj) : (w.alloc x).cell? ⟨b, o, none⟩ = some v := (((Kept.refl w).alloc x).cell _ _ (lt_cellL h)).trans h
theorem EDay_any (c y : Int) (w : World) (hT : RTab w) (hc : Sm c) :
    Calls Tryd.prog 35 #[.int .i64 c, .int .i64 y] w fun e w' => e = .returned (.tuple #[.int .i64 (esV c y), .int .i64 (flE c y)]) ∧ Kept w w' := by
  have KT := Lib.hid (fun w' (k : Kept w w') => hT.kept k)
  have KM := Lib.hid (fun x b1 b2 w' (k : Kept w w') (h1 : w'.cell? ⟨b1, 0, none⟩ = some (.int .i64 c)) (h2 : w'.cell? ⟨b2, 0, none⟩ = some (.int .i64 y)) => eas1_of c y x b1 b2 w' (hT.kept k) hc h1 h2)
  rcases fl_cases c y with ⟨hf, e0⟩ | ⟨hf, e0⟩ | ⟨hf, e0⟩
  · rw [e0] at KM
    have hv : moonV c y = eqN c y + moonI c y := if_pos e0
    have hv2 : esV c y = esN c y := if_pos e0
    have hm := moonI_bounds c y
    have he := eqN_bounds c y (fit_cal c y hf).2.1 (fit_cal c y hf).2.2
    have KN := Lib.hid (fun w => eas2_of (eqN c y + moonI c y) w (by omega) (by omega))
    rw [hv] at KM
    rw [hv2, e0]
    have hv3 : esN c y = eqN c y + moonI c y + 1 + -(eqN c y + moonI c y + 1) % 7 := by unfold esN; omega
    rw [hv3]
    generalize eqN c y + moonI c y = n at *
    clear hT hv hv2 hv3 hf e0 hc hm he
    have HC0 := Cblk.new ((w.alloc (.cells #[.int .i64 c] 3)).alloc (.cells #[.int .i64 y] 3)) (.int .i64 c) (.int .i64 0) (.int .i64 0)
    have K0 := (((Kept.refl w).alloc (.cells #[.int .i64 c] 3)).alloc (.cells #[.int .i64 y] 3)).alloc (.cells #[.int .i64 c, .int .i64 0, .int .i64 0] 69)
    simp only [World.size_alloc] at HC0
    have L1 := cell_next (cell_next (cell_new w (.int .i64 c) 3) (.cells #[.int .i64 y] 3)) (.cells #[.int .i64 c, .int .i64 0, .int .i64 0] 69)
    have L2 := cell_next (cell_new (w.alloc (.cells #[.int .i64 c] 3)) (.int .i64 y) 3) (.cells #[.int .i64 c, .int .i64 0, .int .i64 0] 69)
    rw [World.size_alloc] at L2
    go_enter Tryd.func35, Tryd.ntmps35
    go_wp2_with fail
    go_at_call 68
    go_in
    go_wp2_with fail
    go_at_call 69
    refine (KM.out 0 w.heap.size (w.heap.size + 1) _ K0 L1 L2).mono ?_
    rintro e w1 ⟨rfl, hk1⟩
    have HC1 := HC0.kept hk1
    obtain ⟨c1, c2, c3, c4, c5, c6⟩ := HC1.cells
    have K1 := K0.trans hk1
    go_wp2_with fail
    have HC2 := (HC1.set1 (.int .i64 n)).set2 (.int .i64 0)
    have K2 : Kept w ((w1.setCell ⟨w.heap.size + 1 + 1, 1, none⟩ (.int .i64 n)).setCell ⟨w.heap.size + 1 + 1, 2, none⟩ (.int .i64 0)) := (by repeat (first | with_reducible exact Kept.refl _ | with_reducible assumption | with_reducible refine Kept.drew ?_ | with_reducible refine Kept.drewN ?_ _ | with_reducible refine Kept.alloc ?_ _ | (with_reducible refine Kept.setCell ?_ (by first | exact Nat.le_refl _ | omega | (simp; done) | (simp; omega)) _) | (with_reducible refine Kept.trans ?_ (by with_reducible assumption))))
    generalize ((w1.setCell ⟨w.heap.size + 1 + 1, 1, none⟩ (.int .i64 n)).setCell ⟨w.heap.size + 1 + 1, 2, none⟩ (.int .i64 0)) = w2 at *
    obtain ⟨d1, d2, d3, d4, d5, d6⟩ := HC2.cells
    go_at_call 68
    go_in
    go_wp2_with fail
    go_at_call 70
    refine (KN.out _).mono ?_
    rintro e w3 ⟨rfl, hk3⟩
    have HC3 := HC2.kept hk3
    obtain ⟨f1, f2, f3, f4, f5, f6⟩ := HC3.cells
    have K3 := K2.trans hk3
    go_wp2
    go_region
    go_wp2
    go_ret2
    exact ⟨rfl, (by repeat (first | with_reducible exact Kept.refl _ | with_reducible assumption | with_reducible refine Kept.drew ?_ | with_reducible refine Kept.drewN ?_ _ | with_reducible refine Kept.alloc ?_ _ | (with_reducible refine Kept.setCell ?_ (by first | exact Nat.le_refl _ | omega | (simp; done) | (simp; omega)) _) | (with_reducible refine Kept.trans ?_ (by with_reducible assumption))))⟩
  all_goals
    rw [e0] at KM
    have hv2 : esV c y = 0 := by unfold esV; rw [if_neg (by omega)]
    have hv : moonV c y = 0 := by unfold moonV; rw [if_neg (by omega)]
    rw [hv] at KM
    rw [hv2, e0]
    clear hT hv hv2 hf e0 hc
    have HC0 := Cblk.new ((w.alloc (.cells #[.int .i64 c] 3)).alloc (.cells #[.int .i64 y] 3)) (.int .i64 c) (.int .i64 0) (.int .i64 0)
    have K0 := (((Kept.refl w).alloc (.cells #[.int .i64 c] 3)).alloc (.cells #[.int .i64 y] 3)).alloc (.cells #[.int .i64 c, .int .i64 0, .int .i64 0] 69)
    simp only [World.size_alloc] at HC0
    have L1 := cell_next (cell_next (cell_new w (.int .i64 c) 3) (.cells #[.int .i64 y] 3)) (.cells #[.int .i64 c, .int .i64 0, .int .i64 0] 69)
    have L2 := cell_next (cell_new (w.alloc (.cells #[.int .i64 c] 3)) (.int .i64 y) 3) (.cells #[.int .i64 c, .int .i64 0, .int .i64 0] 69)
    rw [World.size_alloc] at L2
    go_enter Tryd.func35, Tryd.ntmps35
    go_wp2_with fail
    go_at_call 68
    go_in
    go_wp2_with fail
    go_at_call 69
    refine (KM.out 0 w.heap.size (w.heap.size + 1) _ K0 L1 L2).mono ?_
    rintro e w1 ⟨rfl, hk1⟩
    have HC1 := HC0.kept hk1
    obtain ⟨c1, c2, c3, c4, c5, c6⟩ := HC1.cells
    have K1 := K0.trans hk1
    go_wp2_with fail
    go_at_call 68
    go_in
    go_wp2
    go_region
    go_wp2
    go_ret2
    exact ⟨rfl, (by repeat (first | with_reducible exact Kept.refl _ | with_reducible assumption | with_reducible refine Kept.drew ?_ | with_reducible refine Kept.drewN ?_ _ | with_reducible refine Kept.alloc ?_ _ | (with_reducible refine Kept.setCell ?_ (by first | exact Nat.le_refl _ | omega | (simp; done) | (simp; omega)) _) | (with_reducible refine Kept.trans ?_ (by with_reducible assumption))))⟩
end Go.Proofs.YtliomdnglhjfaaaDoor

/- Contracts and plain lemmas: Pas, Eas, Eas2, RefP. -/
import Derived.Test.YtblaphkaklocfaaGreatDoorG02
import Derived.Test.YtblaphkaklocfaaGreatDoorG06
import Derived.Outline
import Derived.ScopeJumps
import Derived.WalkMore
set_option linter.unusedSimpArgs false
set_option linter.unusedVariables false
set_option linter.unusedSectionVars false
/- Contracts: package paschal: NewMoon, FullMoon. -/
namespace Go.Proofs.YtblaphkaklocfaaGreatDoor
open Go.ChangeShapes Go.WideShapes Go.ChangeAt Go.RowKit
set_option maxHeartbeats 800000
set_option maxRecDepth 20000

theorem fit_cal (k y : Int) (h : Fit k y) : IsCal k ∧ 1 ≤ y ∧ y ≤ 1000000000 := by unfold Fit at h; unfold IsCal; omega
theorem fit_sm (k y : Int) (h : Fit k y) : Sm k := by unfold Fit at h; unfold Sm; omega
theorem day_c (k y i : Int) (h : Fit k y) (h1 : -20 ≤ i) (h2 : i ≤ 40) : cE k y (dmo i) (dda i) = 0 ∧ cN k y (dmo i) (dda i) = eqN k y + i := by
  obtain ⟨a, b, c⟩ := fit_cal k y h
  obtain ⟨o, e⟩ := day_ok k y i b c h1 h2
  rcases c_cases k y (dmo i) (dda i) with ⟨_, _, e1, e2⟩ | ⟨_, _, _, n⟩
  · exact ⟨e2, by rw [e1, e]⟩
  · exact absurd ⟨a, o⟩ n
theorem fd_day (k y i : Int) (h : Fit k y) (h1 : -20 ≤ i) (h2 : i ≤ 40) : FdC k (eqN k y + i) y (dmo i) (dda i) 0 := by
  obtain ⟨a, b, c⟩ := fit_cal k y h
  obtain ⟨o, e⟩ := day_ok k y i b c h1 h2
  exact .inl ⟨a, .inr ⟨o, e, rfl⟩⟩
theorem sh_ok (k y i n : Int) (h : Fit k y) (h1 : -20 ≤ i) (h2 : i ≤ 40) (h3 : -20 ≤ i + n) (h4 : i + n ≤ 40) : ShRel k y (dmo i) (dda i) n y (dmo (i + n)) (dda (i + n)) 0 := by
  obtain ⟨e1, e2⟩ := day_c k y i h h1 h2
  refine .inr ⟨e1, ?_⟩
  rw [e2, show eqN k y + i + n = eqN k y + (i + n) from by omega]
  exact fd_day k y (i + n) h h3 h4
/-- The error of a date in a calendar with new moons. -/
def nmE (c y m d : Int) : Int := if flE c y = 0 then cE c y m d else flE c y
def nmB (c y m d : Int) : Bool := decide (nmE c y m d = 0) && bears m d (labN c y)
theorem cE_range (c y m d : Int) : 0 ≤ cE c y m d ∧ cE c y m d ≤ 3 := by rcases c_cases c y m d with ⟨_, _, _, h'⟩ | ⟨_, h', _⟩ <;> omega
theorem NewMoon_any (c y m d : Int) (w : World) (hT : Tab w) (hL : LTab w) (hc : Sm c) :
    Calls Tryz.prog 141 #[.int .i64 c, .agg #[.int .i64 y, .int .i64 m, .int .i64 d]] w fun e w' => e = .returned (.tuple #[.bool (nmB c y m d), .int .i64 (nmE c y m d)]) ∧ Kept w w' := by
  have KT := Lib.hid (fun w' (k : Kept w w') => hT.kept k)
  have KLT := Lib.hid (fun w' (k : Kept w w') => hL.kept k)
  clear hT hL
  have KL := Lib.hid (fun w => ELabel_any c y w hc)
  rcases fl_cases c y with ⟨hf, e0⟩ | ⟨hf, e0⟩ | ⟨hf, e0⟩
  · have KD := Lib.hid (fun w hT => CToDay_all c y m d w hT)
    have KB := Lib.hid (fun w hL => Bears_of m d (labN c y) w hL)
    have hb := labN_bounds c y
    have hr := cE_range c y m d
    have h1 : nmE c y m d = cE c y m d := if_pos e0
    have h2 : nmB c y m d = (decide (cE c y m d = 0) && bears m d (labN c y)) := by unfold nmB; rw [h1]
    rw [h1, h2]
    rw [e0, if_pos rfl] at KL
    clear h1 h2 e0 hf
    generalize labN c y = l at *
    generalize cE c y m d = x at *
    generalize bears m d l = r at *
    by_cases hx : x = 0
    · subst hx
      go_enter Tryz.func141, Tryz.ntmps141
      go_wp2_with fail
      (go_at_call 139; refine (KL.out _).mono ?_; rintro e w1 ⟨rfl, hk1⟩)
      have hB1_1 := hk1
      obtain ⟨hc1_1, hf1_1⟩ := kept_cells hB1_1
      have hz1_0_1 : w.heap.size < w1.heap.size := by have := hB1_1.size; simp at this; omega
      go_wp2_with fail
      (go_at_call 96; refine (KD.out _ (KT.out _ (by repeat (first | with_reducible exact Kept.refl _ | with_reducible assumption | with_reducible refine Kept.drew ?_ | with_reducible refine Kept.drewN ?_ _ | with_reducible refine Kept.alloc ?_ _ | (with_reducible refine Kept.setCell ?_ (by first | exact Nat.le_refl _ | omega | (simp; done) | (simp; omega)) _) | (with_reducible refine Kept.trans ?_ (by with_reducible assumption)))))).mono ?_; rintro e w2 ⟨rfl, hk2⟩)
      have hB1_2 := Kept.trans hB1_1 hk2
      obtain ⟨hc1_2, hf1_2⟩ := kept_cells hB1_2
      have hz1_0_2 : w.heap.size < w2.heap.size := by have := hB1_2.size; simp at this; omega
      go_wp2_with fail
      (go_at_call 195; refine (KB.out _ (KLT.out _ (by repeat (first | with_reducible exact Kept.refl _ | with_reducible assumption | with_reducible refine Kept.drew ?_ | with_reducible refine Kept.drewN ?_ _ | with_reducible refine Kept.alloc ?_ _ | (with_reducible refine Kept.setCell ?_ (by first | exact Nat.le_refl _ | omega | (simp; done) | (simp; omega)) _) | (with_reducible refine Kept.trans ?_ (by with_reducible assumption)))))).mono ?_; rintro e w3 ⟨rfl, hk3⟩)
      have hB1_3 := Kept.trans hB1_2 hk3
      obtain ⟨hc1_3, hf1_3⟩ := kept_cells hB1_3
      have hz1_0_3 : w.heap.size < w3.heap.size := by have := hB1_3.size; simp at this; omega
      go_wp2
      go_ret2
      exact ⟨by simp, (by repeat (first | with_reducible exact Kept.refl _ | with_reducible assumption | with_reducible refine Kept.drew ?_ | with_reducible refine Kept.drewN ?_ _ | with_reducible refine Kept.alloc ?_ _ | (with_reducible refine Kept.setCell ?_ (by first | exact Nat.le_refl _ | omega | (simp; done) | (simp; omega)) _) | (with_reducible refine Kept.trans ?_ (by with_reducible assumption))))⟩
    · rw [decide_eq_false hx]
      go_enter Tryz.func141, Tryz.ntmps141
      go_wp2_with fail
      (go_at_call 139; refine (KL.out _).mono ?_; rintro e w1 ⟨rfl, hk1⟩)
      have hB1_1 := hk1
      obtain ⟨hc1_1, hf1_1⟩ := kept_cells hB1_1
      have hz1_0_1 : w.heap.size < w1.heap.size := by have := hB1_1.size; simp at this; omega
      go_wp2_with fail
      (go_at_call 96; refine (KD.out _ (KT.out _ (by repeat (first | with_reducible exact Kept.refl _ | with_reducible assumption | with_reducible refine Kept.drew ?_ | with_reducible refine Kept.drewN ?_ _ | with_reducible refine Kept.alloc ?_ _ | (with_reducible refine Kept.setCell ?_ (by first | exact Nat.le_refl _ | omega | (simp; done) | (simp; omega)) _) | (with_reducible refine Kept.trans ?_ (by with_reducible assumption)))))).mono ?_; rintro e w2 ⟨rfl, hk2⟩)
      have hB1_2 := Kept.trans hB1_1 hk2
      obtain ⟨hc1_2, hf1_2⟩ := kept_cells hB1_2
      have hz1_0_2 : w.heap.size < w2.heap.size := by have := hB1_2.size; simp at this; omega
      go_wp2
      go_ret2
      exact ⟨by simp, (by repeat (first | with_reducible exact Kept.refl _ | with_reducible assumption | with_reducible refine Kept.drew ?_ | with_reducible refine Kept.drewN ?_ _ | with_reducible refine Kept.alloc ?_ _ | (with_reducible refine Kept.setCell ?_ (by first | exact Nat.le_refl _ | omega | (simp; done) | (simp; omega)) _) | (with_reducible refine Kept.trans ?_ (by with_reducible assumption))))⟩
  all_goals
    have h1 : nmE c y m d = flE c y := by unfold nmE; rw [if_neg (by omega)]
    have h2 : nmB c y m d = false := by unfold nmB; rw [h1, e0]; rfl
    rw [h1, h2]
    rw [e0, if_neg (by decide)] at KL
    rw [e0]
    go_enter Tryz.func141, Tryz.ntmps141
    go_wp2_with fail
    (go_at_call 139; refine (KL.out _).mono ?_; rintro e w1 ⟨rfl, hk1⟩)
    have hB1_1 := hk1
    obtain ⟨hc1_1, hf1_1⟩ := kept_cells hB1_1
    have hz1_0_1 : w.heap.size < w1.heap.size := by have := hB1_1.size; simp at this; omega
    go_wp2
    go_ret2
    exact ⟨rfl, (by repeat (first | with_reducible exact Kept.refl _ | with_reducible assumption | with_reducible refine Kept.drew ?_ | with_reducible refine Kept.drewN ?_ _ | with_reducible refine Kept.alloc ?_ _ | (with_reducible refine Kept.setCell ?_ (by first | exact Nat.le_refl _ | omega | (simp; done) | (simp; omega)) _) | (with_reducible refine Kept.trans ?_ (by with_reducible assumption))))⟩
theorem moon_bears (k y i : Int) (h : 0 ≤ i) (h' : i ≤ 28) : bears (dmo (i - 13)) (dda (i - 13)) (labN k y) = decide (i = moonI k y) := by
  have hb := labN_bounds k y
  exact first_ok (labN k y) i hb.1 hb.2 h h'
theorem NewMoon_at (k y i : Int) (w : World) (hT : Tab w) (hL : LTab w) (hf : Fit k y) (h : 0 ≤ i) (h' : i ≤ 28) :
    Calls Tryz.prog 141 #[.int .i64 k, .agg #[.int .i64 y, .int .i64 (dmo (i - 13)), .int .i64 (dda (i - 13))]] w fun e w' => e = .returned (.tuple #[.bool (decide (i = moonI k y)), .int .i64 0]) ∧ Kept w w' := by
  have h1 := NewMoon_any k y (dmo (i - 13)) (dda (i - 13)) w hT hL (fit_sm k y hf)
  have e0 : flE k y = 0 := by
    rcases fl_cases k y with ⟨_, e⟩ | ⟨g, _⟩ | ⟨g, _⟩
    · exact e
    · unfold Fit at hf; unfold Off at g; omega
    · unfold Fit at hf; omega
  have e1 : nmE k y (dmo (i - 13)) (dda (i - 13)) = 0 := by
    unfold nmE
    rw [if_pos e0]
    exact (day_c k y (i - 13) hf (by omega) (by omega)).1
  unfold nmB at h1
  rw [e1, moon_bears k y i h h', decide_eq_true rfl, Bool.true_and] at h1
  exact h1
/-- A date lies in the block b, and may be written. -/
def Dblk (w : World) (b : Nat) (y m d : Value) : Prop := w.heap[b]? = some (.cells #[y, m, d] 29 (0, 0))
theorem Dblk.kept {w w' : World} {b : Nat} {y m d : Value} (h : Dblk w b y m d) (k : Kept w w') : Dblk w' b y m d := (k.block b (Array.getElem?_eq_some_iff.1 h).1).trans h
theorem Dblk.lt {w : World} {b : Nat} {y m d : Value} (h : Dblk w b y m d) : b < w.heap.size := (Array.getElem?_eq_some_iff.1 h).1
theorem Dblk.cells {w : World} {b : Nat} {y m d : Value} (h : Dblk w b y m d) : w.cell? ⟨b, 0, none⟩ = some y ∧ w.cell? ⟨b, 1, none⟩ = some m ∧ w.cell? ⟨b, 2, none⟩ = some d ∧ w.frozen? ⟨b, 0, none⟩ = false ∧ w.frozen? ⟨b, 1, none⟩ = false ∧ w.frozen? ⟨b, 2, none⟩ = false := by
  unfold Dblk at h
  simp [World.cell?, World.frozen?, h]
theorem Dblk.new (w : World) (y m d : Value) : Dblk (w.alloc (.cells #[y, m, d] 29)) w.heap.size y m d := by
  show (w.heap.push _)[w.heap.size]? = _
  exact Array.getElem?_push_size
theorem Dblk.alloc {w : World} {b : Nat} {y m d : Value} (h : Dblk w b y m d) (o : Obj) : Dblk (w.alloc o) b y m d := h.kept ((Kept.refl w).alloc o)
theorem Dblk.set0 {w : World} {b : Nat} {y m d : Value} (h : Dblk w b y m d) (u : Value) : Dblk (w.setCell ⟨b, 0, none⟩ u) b u m d := by
  obtain ⟨hlt, hk⟩ := Array.getElem?_eq_some_iff.1 h
  show (w.heap.modify b _)[b]? = _
  rw [Array.getElem?_eq_getElem (by rw [Array.size_modify]; exact hlt), Array.getElem_modify_self, hk]
  rfl
theorem Dblk.set1 {w : World} {b : Nat} {y m d : Value} (h : Dblk w b y m d) (u : Value) : Dblk (w.setCell ⟨b, 1, none⟩ u) b y u d := by
  obtain ⟨hlt, hk⟩ := Array.getElem?_eq_some_iff.1 h
  show (w.heap.modify b _)[b]? = _
  rw [Array.getElem?_eq_getElem (by rw [Array.size_modify]; exact hlt), Array.getElem_modify_self, hk]
  rfl
theorem Dblk.set2 {w : World} {b : Nat} {y m d : Value} (h : Dblk w b y m d) (u : Value) : Dblk (w.setCell ⟨b, 2, none⟩ u) b y m u := by
  obtain ⟨hlt, hk⟩ := Array.getElem?_eq_some_iff.1 h
  show (w.heap.modify b _)[b]? = _
  rw [Array.getElem?_eq_getElem (by rw [Array.size_modify]; exact hlt), Array.getElem_modify_self, hk]
  rfl
theorem Dblk.other {w : World} {b b' : Nat} {y m d : Value} (h : Dblk w b y m d) (hne : b ≠ b') (o : Nat) (u : Value) : Dblk (w.setCell ⟨b', o, none⟩ u) b y m d :=
  (Below.heap_setCell w _ u b hne).trans h
/-- The day that the loop's date is at. -/
def dayOf (a : Act) (w : World) : Int :=
  match a.tmps.getD 8 undef with
  | .pointer (some p) => (match w.cell? ⟨p.block, 1, none⟩, w.cell? ⟨p.block, 2, none⟩ with
    | some (.int _ m), some (.int _ d) => if m = 3 then d - 21 else d + 10
    | _, _ => 0)
  | _ => 0
theorem dayOf_eq (a : Act) (w : World) (bd : Nat) (y i : Int) (h : a.tmps.getD 8 undef = .pointer (some ⟨bd, 0, none⟩)) (HB : Dblk w bd (.int .i64 y) (.int .i64 (dmo i)) (.int .i64 (dda i))) : dayOf a w = i := by
  obtain ⟨_, b2, b3, _⟩ := HB.cells
  unfold dayOf
  rw [h]
  simp only [b2, b3]
  unfold dmo dda
  by_cases c : i ≤ 10
  · rw [if_pos c, if_pos c, if_pos rfl]; omega
  · rw [if_neg c, if_neg c, if_neg (by decide)]; omega
theorem FullMoon_ok (k y : Int) (w : World) (hT : Tab w) (hL : LTab w) (hf : Fit k y) :
    Calls Tryz.prog 95 #[.int .i64 k, .int .i64 y] w fun e w' => e = .returned (.tuple #[.agg #[.int .i64 y, .int .i64 (dmo (moonI k y)), .int .i64 (dda (moonI k y))], .int .i64 0]) ∧ Kept w w' := by
  have KT := Lib.hid (fun w' (k : Kept w w') => hT.kept k)
  have KLT := Lib.hid (fun w' (k : Kept w w') => hL.kept k)
  have hc := fit_sm k y hf
  have KL := Lib.hid (fun w => ELabel_any k y w hc)
  have KN := Lib.hid (fun i w hT hL a b => NewMoon_at k y i w hT hL hf a b)
  have hb := moonI_bounds k y
  have KS := Lib.hid (fun i n w hT a b c d => Shift_all k y (dmo i) (dda i) n _ _ _ _ w hT (sh_ok k y i n hf a b c d))
  have KS13 : Hid (∀ i w, Tab w → -7 ≤ i → i ≤ 40 → Calls Tryz.prog 140 #[.int .i64 k, .agg #[.int .i64 y, .int .i64 (dmo i), .int .i64 (dda i)], .int .i64 (-13)] w fun e' w' => e' = .returned (.tuple #[.agg #[.int .i64 y, .int .i64 (dmo (i - 13)), .int .i64 (dda (i - 13))], .int .i64 0]) ∧ Kept w w') :=
    (show ∀ _ _, _ from fun i w hT a b => KS.out i (-13) w hT (by omega) b (by omega) (by omega) (by omega))
  have e0 : flE k y = 0 := by
    rcases fl_cases k y with ⟨_, e⟩ | ⟨g, _⟩ | ⟨g, _⟩
    · exact e
    · unfold Fit at hf; unfold Off at g; omega
    · unfold Fit at hf; omega
  rw [e0, if_pos rfl] at KL
  clear hT hL e0 hc hf
  generalize labN k y = l0 at *
  go_enter Tryz.func95, Tryz.ntmps95
  go_wp2_with fail
  refine wp_scope_jumps 0 (fun a' wr => ∃ (i : Int) (bd : Nat) (u6 u9 u10 u11 u12 u13 u14 u15 u16 u17 u18 u19 u20 u21 u22 u23 u24 u25 u26 u27 u28 u29 u30 u31 u32 u33 u34 u35 u36 u37 u38 u39 u40 u41 u42 u43 u44 u45 : Value), a' = { tmps := #[.int .i64 k, .int .i64 y, undef, undef, .pointer (some ⟨w.heap.size, 0, none⟩), .int .i64 0, u6, .int .i64 0, .pointer (some ⟨bd, 0, none⟩), u9, u10, u11, u12, u13, u14, u15, u16, u17, u18, u19, u20, u21, u22, u23, u24, u25, u26, u27, u28, u29, u30, u31, u32, u33, u34, u35, u36, u37, u38, u39, u40, u41, u42, u43, u44, u45], defers := [] } ∧ 0 ≤ i ∧ i ≤ moonI k y ∧ w.heap.size < bd ∧ Dblk wr bd (.int .i64 y) (.int .i64 (dmo i)) (.int .i64 (dda i)) ∧ Dblk wr w.heap.size (.int .i64 0) (.int .i64 0) (.int .i64 0) ∧ Kept w wr ∧ Hid (wr = wr)) (fun a' wr => (28 - dayOf a' wr).toNat) rfl ?first ?pass
  case first =>
    have HR0 := Dblk.new w (.int .i64 0) (.int .i64 0) (.int .i64 0)
    have K0 := (Kept.refl w).alloc (.cells #[.int .i64 0, .int .i64 0, .int .i64 0] 29)
    go_wp2_with fail
    go_at_call 139
    (with_reducible refine (KL.out _).mono ?_)
    rintro e w1 ⟨rfl, hk1⟩
    go_wp2_with fail
    go_step3
    have HB := Dblk.new w1 (.int .i64 y) (.int .i64 3) (.int .i64 21)
    have HR := (HR0.kept hk1).alloc (.cells #[.int .i64 y, .int .i64 3, .int .i64 21] 29)
    have hkw := (K0.trans hk1).alloc (.cells #[.int .i64 y, .int .i64 3, .int .i64 21] 29)
    have hbd : w.heap.size < w1.heap.size := by have := hk1.size; simp at this; omega
    clear HR0 K0
    generalize (w1.alloc (.cells #[.int .i64 y, .int .i64 3, .int .i64 21] 29)) = wr at *
    generalize w1.heap.size = bd at *
    obtain ⟨i, hi0⟩ : ∃ i : Int, i = 0 := ⟨0, rfl⟩
    have i0 : 0 ≤ i := by omega
    have i1 : i ≤ moonI k y := by omega
    rw [show (3 : Int) = dmo i from by rw [hi0]; rfl, show (21 : Int) = dda i from by rw [hi0]; rfl] at HB
    clear hi0
    obtain ⟨b1, b2, b3, b4, b5, b6⟩ := HB.cells
    obtain ⟨r1, r2, r3, r4, r5, r6⟩ := HR.cells
    go_wp2_with fail
    go_at_call 140
    (with_reducible refine (KS13.out i _ (KT.out _ hkw) (by omega) (by omega)).mono ?_)
    rintro e v1 ⟨rfl, k1⟩
    go_wp2_with fail
    go_at_call 141
    have k2 := k1.alloc (.cells #[.int .i64 y, .int .i64 (dmo (i - 13)), .int .i64 (dda (i - 13))] 29)
    (with_reducible refine (KN.out i _ (KT.out _ (hkw.trans k2)) (KLT.out _ (hkw.trans k2)) (by omega) (by omega)).mono ?_)
    rintro e v2 ⟨rfl, q2⟩
    have k3 := k2.trans q2
    have HB3 := HB.kept k3
    have HR3 := HR.kept k3
    obtain ⟨b1, b2, b3, b4, b5, b6⟩ := HB3.cells
    obtain ⟨r1, r2, r3, r4, r5, r6⟩ := HR3.cells
    by_cases hi : i = moonI k y
    · rw [decide_eq_true hi]
      rw [hi] at b2 b3
      have K3 := hkw.trans k3
      go_wp2
      simp only [Exit.jump]
      exact bodyPost_ret (v := .tuple #[.agg #[.int .i64 y, .int .i64 (dmo (moonI k y)), .int .i64 (dda (moonI k y))], .int .i64 0]) (by simp [results, Tryz.results95, go_sem, *]) rfl ⟨rfl, (by repeat (first | with_reducible exact Kept.refl _ | with_reducible assumption | with_reducible refine Kept.drew ?_ | with_reducible refine Kept.drewN ?_ _ | with_reducible refine Kept.alloc ?_ _ | (with_reducible refine Kept.setCell ?_ (by first | exact Nat.le_refl _ | omega | (simp; done) | (simp; omega)) _) | (with_reducible refine Kept.trans ?_ (by with_reducible assumption))))⟩
    · rw [decide_eq_false hi]
      go_wp2_with fail
      go_at_call 140
      (with_reducible refine (KS.out i 1 v2 (KT.out _ (hkw.trans k3)) (by omega) (by omega) (by omega) (by omega) (by omega)).mono ?_)
      rintro e v4 ⟨rfl, q4⟩
      have k4 := k3.trans q4
      have HB4 := HB3.kept q4
      have HR4 := HR3.kept q4
      obtain ⟨b1, b2, b3, b4, b5, b6⟩ := HB4.cells
      obtain ⟨r1, r2, r3, r4, r5, r6⟩ := HR4.cells
      have K4 := hkw.trans k4
      have HB5 := ((HB4.set0 (.int .i64 y)).set1 (.int .i64 (dmo (i + 1)))).set2 (.int .i64 (dda (i + 1)))
      have HR5 := ((HR4.other (show w.heap.size ≠ bd by omega) 0 (.int .i64 y)).other (show w.heap.size ≠ bd by omega) 1 (.int .i64 (dmo (i + 1)))).other (show w.heap.size ≠ bd by omega) 2 (.int .i64 (dda (i + 1)))
      have K5 : Kept w (((v4.setCell ⟨bd, 0, none⟩ (.int .i64 y)).setCell ⟨bd, 1, none⟩ (.int .i64 (dmo (i + 1)))).setCell ⟨bd, 2, none⟩ (.int .i64 (dda (i + 1)))) := (by repeat (first | with_reducible exact Kept.refl _ | with_reducible assumption | with_reducible refine Kept.drew ?_ | with_reducible refine Kept.drewN ?_ _ | with_reducible refine Kept.alloc ?_ _ | (with_reducible refine Kept.setCell ?_ (by first | exact Nat.le_refl _ | omega | (simp; done) | (simp; omega)) _) | (with_reducible refine Kept.trans ?_ (by with_reducible assumption))))
      go_wp2_with fail
      clear b1 b2 b3 b4 b5 b6 r1 r2 r3 r4 r5 r6
      go_step3
      exact ⟨rfl, i + 1, bd, _, _, _, _, _, _, _, _, _, _, _, _, _, _, _, _, _, _, _, _, _, _, _, _, _, _, _, _, _, _, _, _, _, _, _, _, _, _, rfl, by omega, by omega, by omega, HB5, HR5, K5, rfl⟩
  case pass =>
    rintro a' wr ⟨i, bd, u6, u9, u10, u11, u12, u13, u14, u15, u16, u17, u18, u19, u20, u21, u22, u23, u24, u25, u26, u27, u28, u29, u30, u31, u32, u33, u34, u35, u36, u37, u38, u39, u40, u41, u42, u43, u44, u45, rfl, i0, i1, hbd, HB, HR, hkw, -⟩
    have HBs := HB
    obtain ⟨b1, b2, b3, b4, b5, b6⟩ := HB.cells
    obtain ⟨r1, r2, r3, r4, r5, r6⟩ := HR.cells
    go_wp2_with fail
    go_at_call 140
    (with_reducible refine (KS13.out i _ (KT.out _ hkw) (by omega) (by omega)).mono ?_)
    rintro e v1 ⟨rfl, k1⟩
    go_wp2_with fail
    go_at_call 141
    have k2 := k1.alloc (.cells #[.int .i64 y, .int .i64 (dmo (i - 13)), .int .i64 (dda (i - 13))] 29)
    (with_reducible refine (KN.out i _ (KT.out _ (hkw.trans k2)) (KLT.out _ (hkw.trans k2)) (by omega) (by omega)).mono ?_)
    rintro e v2 ⟨rfl, q2⟩
    have k3 := k2.trans q2
    have HB3 := HB.kept k3
    have HR3 := HR.kept k3
    obtain ⟨b1, b2, b3, b4, b5, b6⟩ := HB3.cells
    obtain ⟨r1, r2, r3, r4, r5, r6⟩ := HR3.cells
    by_cases hi : i = moonI k y
    · rw [decide_eq_true hi]
      rw [hi] at b2 b3
      have K3 := hkw.trans k3
      go_wp2
      simp only [Exit.jump]
      exact bodyPost_ret (v := .tuple #[.agg #[.int .i64 y, .int .i64 (dmo (moonI k y)), .int .i64 (dda (moonI k y))], .int .i64 0]) (by simp [results, Tryz.results95, go_sem, *]) rfl ⟨rfl, (by repeat (first | with_reducible exact Kept.refl _ | with_reducible assumption | with_reducible refine Kept.drew ?_ | with_reducible refine Kept.drewN ?_ _ | with_reducible refine Kept.alloc ?_ _ | (with_reducible refine Kept.setCell ?_ (by first | exact Nat.le_refl _ | omega | (simp; done) | (simp; omega)) _) | (with_reducible refine Kept.trans ?_ (by with_reducible assumption))))⟩
    · rw [decide_eq_false hi]
      go_wp2_with fail
      go_at_call 140
      (with_reducible refine (KS.out i 1 v2 (KT.out _ (hkw.trans k3)) (by omega) (by omega) (by omega) (by omega) (by omega)).mono ?_)
      rintro e v4 ⟨rfl, q4⟩
      have k4 := k3.trans q4
      have HB4 := HB3.kept q4
      have HR4 := HR3.kept q4
      obtain ⟨b1, b2, b3, b4, b5, b6⟩ := HB4.cells
      obtain ⟨r1, r2, r3, r4, r5, r6⟩ := HR4.cells
      have K4 := hkw.trans k4
      have HB5 := ((HB4.set0 (.int .i64 y)).set1 (.int .i64 (dmo (i + 1)))).set2 (.int .i64 (dda (i + 1)))
      have HR5 := ((HR4.other (show w.heap.size ≠ bd by omega) 0 (.int .i64 y)).other (show w.heap.size ≠ bd by omega) 1 (.int .i64 (dmo (i + 1)))).other (show w.heap.size ≠ bd by omega) 2 (.int .i64 (dda (i + 1)))
      have K5 : Kept w (((v4.setCell ⟨bd, 0, none⟩ (.int .i64 y)).setCell ⟨bd, 1, none⟩ (.int .i64 (dmo (i + 1)))).setCell ⟨bd, 2, none⟩ (.int .i64 (dda (i + 1)))) := (by repeat (first | with_reducible exact Kept.refl _ | with_reducible assumption | with_reducible refine Kept.drew ?_ | with_reducible refine Kept.drewN ?_ _ | with_reducible refine Kept.alloc ?_ _ | (with_reducible refine Kept.setCell ?_ (by first | exact Nat.le_refl _ | omega | (simp; done) | (simp; omega)) _) | (with_reducible refine Kept.trans ?_ (by with_reducible assumption))))
      go_wp2_with fail
      clear b1 b2 b3 b4 b5 b6 r1 r2 r3 r4 r5 r6
      go_step3
      refine ⟨rfl, ⟨i + 1, bd, _, _, _, _, _, _, _, _, _, _, _, _, _, _, _, _, _, _, _, _, _, _, _, _, _, _, _, _, _, _, _, _, _, _, _, _, _, _, rfl, by omega, by omega, by omega, HB5, HR5, K5, rfl⟩, ?_⟩
      rw [dayOf_eq _ _ bd y (i + 1) rfl HB5, dayOf_eq _ _ bd y i rfl HB]
      omega
theorem FullMoon_any (k y : Int) (w : World) (hT : RTab w) (hc : Sm k) :
    Calls Tryz.prog 95 #[.int .i64 k, .int .i64 y] w fun e w' => e = .returned (.tuple #[if flE k y = 0 then .agg #[.int .i64 y, .int .i64 (dmo (moonI k y)), .int .i64 (dda (moonI k y))] else .agg #[.int .i64 0, .int .i64 0, .int .i64 0], .int .i64 (flE k y)]) ∧ Kept w w' := by
  rcases fl_cases k y with ⟨hf, e0⟩ | ⟨hf, e0⟩ | ⟨hf, e0⟩
  · rw [e0, if_pos rfl]
    exact FullMoon_ok k y w hT.1 hT.2 hf
  all_goals
    have KL := Lib.hid (fun w => ELabel_any k y w hc)
    rw [e0, if_neg (by decide)] at KL
    rw [e0, if_neg (by decide)]
    clear hf e0 hT hc
    have HR := Dblk.new w (.int .i64 0) (.int .i64 0) (.int .i64 0)
    have K0 := (Kept.refl w).alloc (.cells #[.int .i64 0, .int .i64 0, .int .i64 0] 29)
    go_enter Tryz.func95, Tryz.ntmps95
    go_wp2_with fail
    go_step3
    go_wp2_with fail
    go_at_call 139
    (with_reducible refine (KL.out _).mono ?_)
    rintro e w1 ⟨rfl, hk1⟩
    have HR1 := HR.kept hk1
    obtain ⟨r1, r2, r3, r4, r5, r6⟩ := HR1.cells
    have K1 := K0.trans hk1
    go_wp2
    simp only [Exit.noGoto_ret]
    first
    | exact bodyPost_ret (v := .tuple #[.agg #[.int .i64 0, .int .i64 0, .int .i64 0], .int .i64 1]) (by simp [results, Tryz.results95, go_sem, *]) rfl ⟨rfl, (by repeat (first | with_reducible exact Kept.refl _ | with_reducible assumption | with_reducible refine Kept.drew ?_ | with_reducible refine Kept.drewN ?_ _ | with_reducible refine Kept.alloc ?_ _ | (with_reducible refine Kept.setCell ?_ (by first | exact Nat.le_refl _ | omega | (simp; done) | (simp; omega)) _) | (with_reducible refine Kept.trans ?_ (by with_reducible assumption))))⟩
    | exact bodyPost_ret (v := .tuple #[.agg #[.int .i64 0, .int .i64 0, .int .i64 0], .int .i64 3]) (by simp [results, Tryz.results95, go_sem, *]) rfl ⟨rfl, (by repeat (first | with_reducible exact Kept.refl _ | with_reducible assumption | with_reducible refine Kept.drew ?_ | with_reducible refine Kept.drewN ?_ _ | with_reducible refine Kept.alloc ?_ _ | (with_reducible refine Kept.setCell ?_ (by first | exact Nat.le_refl _ | omega | (simp; done) | (simp; omega)) _) | (with_reducible refine Kept.trans ?_ (by with_reducible assumption))))⟩
end Go.Proofs.YtblaphkaklocfaaGreatDoor
/- Contracts: package easter. -/
namespace Go.Proofs.YtblaphkaklocfaaGreatDoor
open Go.ChangeShapes Go.WideShapes Go.ChangeAt Go.RowKit
set_option maxHeartbeats 800000

def moonV (c y : Int) : Int := if flE c y = 0 then eqN c y + moonI c y else 0
def esV (c y : Int) : Int := if flE c y = 0 then esN c y else 0
theorem eas1_of (c y x : Int) (b1 b2 : Nat) (w : World) (hT : RTab w) (hc : Sm c) (h1 : w.cell? ⟨b1, 0, none⟩ = some (.int .i64 c)) (h2 : w.cell? ⟨b2, 0, none⟩ = some (.int .i64 y)) :
    Calls Tryz.prog 94 #[.int .i64 x, .pointer (some ⟨b1, 0, none⟩), .pointer (some ⟨b2, 0, none⟩)] w fun e w' => e = .returned (.tuple #[.int .i64 (moonV c y), .int .i64 (flE c y)]) ∧ Kept w w' := by
  have KT := Lib.hid (fun w' (k : Kept w w') => hT.kept k)
  have hz1 := lt_cellL h1
  have hz2 := lt_cellL h2
  have KM := Lib.hid (fun w' (k : Kept w w') => FullMoon_any c y w' (hT.kept k) hc)
  rcases fl_cases c y with ⟨hf, e0⟩ | ⟨hf, e0⟩ | ⟨hf, e0⟩
  · have hm := moonI_bounds c y
    obtain ⟨d1, d2⟩ := day_c c y (moonI c y) hf (by omega) (by omega)
    have KD := Lib.hid (fun w' (k : Kept w w') => CToDay_all c y (dmo (moonI c y)) (dda (moonI c y)) w' (hT.kept k).1)
    rw [d1, d2] at KD
    have hv : moonV c y = eqN c y + moonI c y := if_pos e0
    rw [e0, if_pos rfl] at KM
    rw [hv, e0]
    clear hT d1 d2 hv hf e0 hc
    go_enter Tryz.func94, Tryz.ntmps94
    go_wp2_with fail
    go_wp2_with fail
    (go_at_call 95; refine (KM.out _ (by repeat (first | with_reducible exact Kept.refl _ | with_reducible assumption | with_reducible refine Kept.drew ?_ | with_reducible refine Kept.drewN ?_ _ | with_reducible refine Kept.alloc ?_ _ | (with_reducible refine Kept.setCell ?_ (by first | exact Nat.le_refl _ | omega | (simp; done) | (simp; omega)) _) | (with_reducible refine Kept.trans ?_ (by with_reducible assumption))))).mono ?_; rintro e w1 ⟨rfl, hk1⟩)
    have q1 := (hk1.cell _ _ hz1).trans h1
    have q2 := (hk1.cell _ _ hz2).trans h2
    have z1 := lt_cellL q1
    have z2 := lt_cellL q2
    go_wp2_with fail
    (go_at_call 96; refine (KD.out _ (by repeat (first | with_reducible exact Kept.refl _ | with_reducible assumption | with_reducible refine Kept.drew ?_ | with_reducible refine Kept.drewN ?_ _ | with_reducible refine Kept.alloc ?_ _ | (with_reducible refine Kept.setCell ?_ (by first | exact Nat.le_refl _ | omega | (simp; done) | (simp; omega)) _) | (with_reducible refine Kept.trans ?_ (by with_reducible assumption))))).mono ?_; rintro e w2 ⟨rfl, hk2⟩)
    have hB2_2 := hk2
    obtain ⟨hc2_2, hf2_2⟩ := kept_cells hB2_2
    have hz2_0_2 : w1.heap.size < w2.heap.size := by have := hB2_2.size; simp at this; omega
    go_wp2
    go_ret2
    exact ⟨rfl, (by repeat (first | with_reducible exact Kept.refl _ | with_reducible assumption | with_reducible refine Kept.drew ?_ | with_reducible refine Kept.drewN ?_ _ | with_reducible refine Kept.alloc ?_ _ | (with_reducible refine Kept.setCell ?_ (by first | exact Nat.le_refl _ | omega | (simp; done) | (simp; omega)) _) | (with_reducible refine Kept.trans ?_ (by with_reducible assumption))))⟩
  all_goals
    have hv : moonV c y = 0 := by unfold moonV; rw [if_neg (by omega)]
    rw [e0, if_neg (by decide)] at KM
    rw [hv, e0]
    clear hT hv hf e0 hc
    go_enter Tryz.func94, Tryz.ntmps94
    go_wp2_with fail
    (go_at_call 95; refine (KM.out _ (by repeat (first | with_reducible exact Kept.refl _ | with_reducible assumption | with_reducible refine Kept.drew ?_ | with_reducible refine Kept.drewN ?_ _ | with_reducible refine Kept.alloc ?_ _ | (with_reducible refine Kept.setCell ?_ (by first | exact Nat.le_refl _ | omega | (simp; done) | (simp; omega)) _) | (with_reducible refine Kept.trans ?_ (by with_reducible assumption))))).mono ?_; rintro e w1 ⟨rfl, hk1⟩)
    have q1 := (hk1.cell _ _ hz1).trans h1
    have q2 := (hk1.cell _ _ hz2).trans h2
    go_wp2
    go_ret2
    exact ⟨rfl, (by repeat (first | with_reducible exact Kept.refl _ | with_reducible assumption | with_reducible refine Kept.drew ?_ | with_reducible refine Kept.drewN ?_ _ | with_reducible refine Kept.alloc ?_ _ | (with_reducible refine Kept.setCell ?_ (by first | exact Nat.le_refl _ | omega | (simp; done) | (simp; omega)) _) | (with_reducible refine Kept.trans ?_ (by with_reducible assumption))))⟩
theorem eas2_of (n : Int) (w : World) (h : -1000 ≤ n) (h' : n ≤ 1000000000000) :
    Calls Tryz.prog 97 #[.int .i64 n] w fun e w' => e = .returned (.tuple #[.int .i64 (n + 1 + -(n + 1) % 7), .int .i64 0]) ∧ Kept w w' := by
  have KO := Lib.hid (fun w => OnOrAfter_ok (n + 1) 0 w (by omega) (by omega) (by omega) (by omega))
  go_enter Tryz.func97, Tryz.ntmps97
  go_wp2_with fail
  (go_at_call 98; refine (KO.out _).mono ?_; rintro e w1 ⟨rfl, hk1⟩)
  go_wp2
  go_ret2
  exact ⟨rfl, (by repeat (first | with_reducible exact Kept.refl _ | with_reducible assumption | with_reducible refine Kept.drew ?_ | with_reducible refine Kept.drewN ?_ _ | with_reducible refine Kept.alloc ?_ _ | (with_reducible refine Kept.setCell ?_ (by first | exact Nat.le_refl _ | omega | (simp; done) | (simp; omega)) _) | (with_reducible refine Kept.trans ?_ (by with_reducible assumption))))⟩
/-- A chain lies in the block b, and may be written. -/
def Cblk (w : World) (b : Nat) (y m d : Value) : Prop := w.heap[b]? = some (.cells #[y, m, d] 151 (0, 0))
theorem Cblk.kept {w w' : World} {b : Nat} {y m d : Value} (h : Cblk w b y m d) (k : Kept w w') : Cblk w' b y m d := (k.block b (Array.getElem?_eq_some_iff.1 h).1).trans h
theorem Cblk.lt {w : World} {b : Nat} {y m d : Value} (h : Cblk w b y m d) : b < w.heap.size := (Array.getElem?_eq_some_iff.1 h).1
theorem Cblk.cells {w : World} {b : Nat} {y m d : Value} (h : Cblk w b y m d) : w.cell? ⟨b, 0, none⟩ = some y ∧ w.cell? ⟨b, 1, none⟩ = some m ∧ w.cell? ⟨b, 2, none⟩ = some d ∧ w.frozen? ⟨b, 0, none⟩ = false ∧ w.frozen? ⟨b, 1, none⟩ = false ∧ w.frozen? ⟨b, 2, none⟩ = false := by
  unfold Cblk at h
  simp [World.cell?, World.frozen?, h]
theorem Cblk.new (w : World) (y m d : Value) : Cblk (w.alloc (.cells #[y, m, d] 151)) w.heap.size y m d := by
  show (w.heap.push _)[w.heap.size]? = _
  exact Array.getElem?_push_size
theorem Cblk.alloc {w : World} {b : Nat} {y m d : Value} (h : Cblk w b y m d) (o : Obj) : Cblk (w.alloc o) b y m d := h.kept ((Kept.refl w).alloc o)
theorem Cblk.set0 {w : World} {b : Nat} {y m d : Value} (h : Cblk w b y m d) (u : Value) : Cblk (w.setCell ⟨b, 0, none⟩ u) b u m d := by
  obtain ⟨hlt, hk⟩ := Array.getElem?_eq_some_iff.1 h
  show (w.heap.modify b _)[b]? = _
  rw [Array.getElem?_eq_getElem (by rw [Array.size_modify]; exact hlt), Array.getElem_modify_self, hk]
  rfl
theorem Cblk.set1 {w : World} {b : Nat} {y m d : Value} (h : Cblk w b y m d) (u : Value) : Cblk (w.setCell ⟨b, 1, none⟩ u) b y u d := by
  obtain ⟨hlt, hk⟩ := Array.getElem?_eq_some_iff.1 h
  show (w.heap.modify b _)[b]? = _
  rw [Array.getElem?_eq_getElem (by rw [Array.size_modify]; exact hlt), Array.getElem_modify_self, hk]
  rfl
theorem Cblk.set2 {w : World} {b : Nat} {y m d : Value} (h : Cblk w b y m d) (u : Value) : Cblk (w.setCell ⟨b, 2, none⟩ u) b y m u := by
  obtain ⟨hlt, hk⟩ := Array.getElem?_eq_some_iff.1 h
  show (w.heap.modify b _)[b]? = _
  rw [Array.getElem?_eq_getElem (by rw [Array.size_modify]; exact hlt), Array.getElem_modify_self, hk]
  rfl
theorem Cblk.other {w : World} {b b' : Nat} {y m d : Value} (h : Cblk w b y m d) (hne : b ≠ b') (o : Nat) (u : Value) : Cblk (w.setCell ⟨b', o, none⟩ u) b y m d :=
  (Below.heap_setCell w _ u b hne).trans h
theorem cell_new (w : World) (v : Value) (T : TypeId) : (w.alloc (.cells #[v] T)).cell? ⟨w.heap.size, 0, none⟩ = some v := by
  have := World.cell?_alloc_mark w #[v] T (0, 0) 0
  rw [this]
  rfl
theorem cell_next {w : World} {b o : Nat} {v : Value} (h : w.cell? ⟨b, o, none⟩ = some v) (x : Obj) : (w.alloc x).cell? ⟨b, o, none⟩ = some v := (((Kept.refl w).alloc x).cell _ _ (lt_cellL h)).trans h
theorem EDay_any (c y : Int) (w : World) (hT : RTab w) (hc : Sm c) :
    Calls Tryz.prog 44 #[.int .i64 c, .int .i64 y] w fun e w' => e = .returned (.tuple #[.int .i64 (esV c y), .int .i64 (flE c y)]) ∧ Kept w w' := by
  have KT := Lib.hid (fun w' (k : Kept w w') => hT.kept k)
  have KM := Lib.hid (fun x b1 b2 w' (k : Kept w w') (h1 : w'.cell? ⟨b1, 0, none⟩ = some (.int .i64 c)) (h2 : w'.cell? ⟨b2, 0, none⟩ = some (.int .i64 y)) => eas1_of c y x b1 b2 w' (hT.kept k) hc h1 h2)
  rcases fl_cases c y with ⟨hf, e0⟩ | ⟨hf, e0⟩ | ⟨hf, e0⟩
  · rw [e0] at KM
    have hv : moonV c y = eqN c y + moonI c y := if_pos e0
    have hv2 : esV c y = esN c y := if_pos e0
    have hm := moonI_bounds c y
    have he := eqN_bounds c y (fit_cal c y hf).2.1 (fit_cal c y hf).2.2
    have KN := Lib.hid (fun w => eas2_of (eqN c y + moonI c y) w (by omega) (by omega))
    rw [hv] at KM
    rw [hv2, e0]
    have hv3 : esN c y = eqN c y + moonI c y + 1 + -(eqN c y + moonI c y + 1) % 7 := by unfold esN; omega
    rw [hv3]
    generalize eqN c y + moonI c y = n at *
    clear hT hv hv2 hv3 hf e0 hc hm he
    have HC0 := Cblk.new ((w.alloc (.cells #[.int .i64 c] 3)).alloc (.cells #[.int .i64 y] 3)) (.int .i64 c) (.int .i64 0) (.int .i64 0)
    have K0 := (((Kept.refl w).alloc (.cells #[.int .i64 c] 3)).alloc (.cells #[.int .i64 y] 3)).alloc (.cells #[.int .i64 c, .int .i64 0, .int .i64 0] 151)
    simp only [World.size_alloc] at HC0
    have L1 := cell_next (cell_next (cell_new w (.int .i64 c) 3) (.cells #[.int .i64 y] 3)) (.cells #[.int .i64 c, .int .i64 0, .int .i64 0] 151)
    have L2 := cell_next (cell_new (w.alloc (.cells #[.int .i64 c] 3)) (.int .i64 y) 3) (.cells #[.int .i64 c, .int .i64 0, .int .i64 0] 151)
    rw [World.size_alloc] at L2
    go_enter Tryz.func44, Tryz.ntmps44
    go_wp2_with fail
    go_at_call 93
    go_in
    go_wp2_with fail
    go_at_call 94
    refine (KM.out 0 w.heap.size (w.heap.size + 1) _ K0 L1 L2).mono ?_
    rintro e w1 ⟨rfl, hk1⟩
    have HC1 := HC0.kept hk1
    obtain ⟨c1, c2, c3, c4, c5, c6⟩ := HC1.cells
    have K1 := K0.trans hk1
    go_wp2_with fail
    have HC2 := (HC1.set1 (.int .i64 n)).set2 (.int .i64 0)
    have K2 : Kept w ((w1.setCell ⟨w.heap.size + 1 + 1, 1, none⟩ (.int .i64 n)).setCell ⟨w.heap.size + 1 + 1, 2, none⟩ (.int .i64 0)) := (by repeat (first | with_reducible exact Kept.refl _ | with_reducible assumption | with_reducible refine Kept.drew ?_ | with_reducible refine Kept.drewN ?_ _ | with_reducible refine Kept.alloc ?_ _ | (with_reducible refine Kept.setCell ?_ (by first | exact Nat.le_refl _ | omega | (simp; done) | (simp; omega)) _) | (with_reducible refine Kept.trans ?_ (by with_reducible assumption))))
    generalize ((w1.setCell ⟨w.heap.size + 1 + 1, 1, none⟩ (.int .i64 n)).setCell ⟨w.heap.size + 1 + 1, 2, none⟩ (.int .i64 0)) = w2 at *
    obtain ⟨d1, d2, d3, d4, d5, d6⟩ := HC2.cells
    go_at_call 93
    go_in
    go_wp2_with fail
    go_at_call 97
    refine (KN.out _).mono ?_
    rintro e w3 ⟨rfl, hk3⟩
    have HC3 := HC2.kept hk3
    obtain ⟨f1, f2, f3, f4, f5, f6⟩ := HC3.cells
    have K3 := K2.trans hk3
    go_wp2
    go_region
    go_wp2
    go_ret2
    exact ⟨rfl, (by repeat (first | with_reducible exact Kept.refl _ | with_reducible assumption | with_reducible refine Kept.drew ?_ | with_reducible refine Kept.drewN ?_ _ | with_reducible refine Kept.alloc ?_ _ | (with_reducible refine Kept.setCell ?_ (by first | exact Nat.le_refl _ | omega | (simp; done) | (simp; omega)) _) | (with_reducible refine Kept.trans ?_ (by with_reducible assumption))))⟩
  all_goals
    rw [e0] at KM
    have hv2 : esV c y = 0 := by unfold esV; rw [if_neg (by omega)]
    have hv : moonV c y = 0 := by unfold moonV; rw [if_neg (by omega)]
    rw [hv] at KM
    rw [hv2, e0]
    clear hT hv hv2 hf e0 hc
    have HC0 := Cblk.new ((w.alloc (.cells #[.int .i64 c] 3)).alloc (.cells #[.int .i64 y] 3)) (.int .i64 c) (.int .i64 0) (.int .i64 0)
    have K0 := (((Kept.refl w).alloc (.cells #[.int .i64 c] 3)).alloc (.cells #[.int .i64 y] 3)).alloc (.cells #[.int .i64 c, .int .i64 0, .int .i64 0] 151)
    simp only [World.size_alloc] at HC0
    have L1 := cell_next (cell_next (cell_new w (.int .i64 c) 3) (.cells #[.int .i64 y] 3)) (.cells #[.int .i64 c, .int .i64 0, .int .i64 0] 151)
    have L2 := cell_next (cell_new (w.alloc (.cells #[.int .i64 c] 3)) (.int .i64 y) 3) (.cells #[.int .i64 c, .int .i64 0, .int .i64 0] 151)
    rw [World.size_alloc] at L2
    go_enter Tryz.func44, Tryz.ntmps44
    go_wp2_with fail
    go_at_call 93
    go_in
    go_wp2_with fail
    go_at_call 94
    refine (KM.out 0 w.heap.size (w.heap.size + 1) _ K0 L1 L2).mono ?_
    rintro e w1 ⟨rfl, hk1⟩
    have HC1 := HC0.kept hk1
    obtain ⟨c1, c2, c3, c4, c5, c6⟩ := HC1.cells
    have K1 := K0.trans hk1
    go_wp2_with fail
    go_at_call 93
    go_in
    go_wp2
    go_region
    go_wp2
    go_ret2
    exact ⟨rfl, (by repeat (first | with_reducible exact Kept.refl _ | with_reducible assumption | with_reducible refine Kept.drew ?_ | with_reducible refine Kept.drewN ?_ _ | with_reducible refine Kept.alloc ?_ _ | (with_reducible refine Kept.setCell ?_ (by first | exact Nat.le_refl _ | omega | (simp; done) | (simp; omega)) _) | (with_reducible refine Kept.trans ?_ (by with_reducible assumption))))⟩
end Go.Proofs.YtblaphkaklocfaaGreatDoor
/- Contracts: package easter: Date, Offset. -/
namespace Go.Proofs.YtblaphkaklocfaaGreatDoor
open Go.ChangeShapes Go.WideShapes Go.ChangeAt Go.RowKit
set_option maxHeartbeats 800000
set_option maxRecDepth 20000

/-- The date of Easter, or zeros. -/
def edY (c y : Int) : Int := if flE c y = 0 then y else 0
def edM (c y : Int) : Int := if flE c y = 0 then dmo (easI c y) else 0
def edD (c y : Int) : Int := if flE c y = 0 then dda (easI c y) else 0
theorem ed_fit (c y : Int) (h : flE c y = 0) : edY c y = y ∧ edM c y = dmo (easI c y) ∧ edD c y = dda (easI c y) := ⟨if_pos h, if_pos h, if_pos h⟩
theorem ed_no (c y : Int) (h : flE c y ≠ 0) : edY c y = 0 ∧ edM c y = 0 ∧ edD c y = 0 := ⟨if_neg h, if_neg h, if_neg h⟩
theorem esN_bounds (c y : Int) (h : Fit c y) : 0 ≤ esN c y ∧ esN c y ≤ 365250000100 := by
  have h1 := esN_val c y
  have h2 := easI_bounds c y
  have h3 := eqN_bounds c y (fit_cal c y h).2.1 (fit_cal c y h).2.2
  omega
theorem EDate_any (c y : Int) (w : World) (hT : RTab w) (hc : Sm c) :
    Calls Tryz.prog 13 #[.int .i64 c, .int .i64 y] w fun e w' => e = .returned (.tuple #[.agg #[.int .i64 (edY c y), .int .i64 (edM c y), .int .i64 (edD c y)], .int .i64 (flE c y)]) ∧ Kept w w' := by
  have KT := Lib.hid (fun w' (k : Kept w w') => hT.kept k)
  have KD := Lib.hid (fun w' h => EDay_any c y w' h hc)
  rcases fl_cases c y with ⟨hf, e0⟩ | ⟨hf, e0⟩ | ⟨hf, e0⟩
  · obtain ⟨a1, a2, a3⟩ := ed_fit c y e0
    have hv : esV c y = esN c y := if_pos e0
    have hb := esN_bounds c y hf
    have hi := easI_bounds c y
    have hfd := fd_day c y (easI c y) hf (by omega) (by omega)
    rw [← esN_val] at hfd
    have KF := Lib.hid (fun w' (k : Kept w w') => CFromDay_all c (esN c y) _ _ _ _ w' (hT.kept k).1 hfd)
    rw [a1, a2, a3, e0]
    rw [hv, e0] at KD
    clear hT hfd hv a1 a2 a3 e0 hf hc
    generalize esN c y = n at *
    generalize dmo (easI c y) = x2 at *
    generalize dda (easI c y) = x3 at *
    go_enter Tryz.func13, Tryz.ntmps13
    go_wp2_with fail
    (go_at_call 44; refine (KD.out _ (KT.out _ (by repeat (first | with_reducible exact Kept.refl _ | with_reducible assumption | with_reducible refine Kept.drew ?_ | with_reducible refine Kept.drewN ?_ _ | with_reducible refine Kept.alloc ?_ _ | (with_reducible refine Kept.setCell ?_ (by first | exact Nat.le_refl _ | omega | (simp; done) | (simp; omega)) _) | (with_reducible refine Kept.trans ?_ (by with_reducible assumption)))))).mono ?_; rintro e w1 ⟨rfl, hk1⟩)
    have hB1_1 := hk1
    obtain ⟨hc1_1, hf1_1⟩ := kept_cells hB1_1
    have hz1_0_1 : w.heap.size < w1.heap.size := by have := hB1_1.size; simp at this; omega
    go_wp2_with fail
    (go_at_call 45; refine (KF.out _ (by repeat (first | with_reducible exact Kept.refl _ | with_reducible assumption | with_reducible refine Kept.drew ?_ | with_reducible refine Kept.drewN ?_ _ | with_reducible refine Kept.alloc ?_ _ | (with_reducible refine Kept.setCell ?_ (by first | exact Nat.le_refl _ | omega | (simp; done) | (simp; omega)) _) | (with_reducible refine Kept.trans ?_ (by with_reducible assumption))))).mono ?_; rintro e w2 ⟨rfl, hk2⟩)
    have hB1_2 := Kept.trans hB1_1 hk2
    obtain ⟨hc1_2, hf1_2⟩ := kept_cells hB1_2
    have hz1_0_2 : w.heap.size < w2.heap.size := by have := hB1_2.size; simp at this; omega
    go_wp2
    exact bodyPost_ret (v := .tuple #[.agg #[.int .i64 y, .int .i64 x2, .int .i64 x3], .int .i64 0]) (by simp [results, Tryz.results13, go_sem, *]) rfl ⟨rfl, (by repeat (first | with_reducible exact Kept.refl _ | with_reducible assumption | with_reducible refine Kept.drew ?_ | with_reducible refine Kept.drewN ?_ _ | with_reducible refine Kept.alloc ?_ _ | (with_reducible refine Kept.setCell ?_ (by first | exact Nat.le_refl _ | omega | (simp; done) | (simp; omega)) _) | (with_reducible refine Kept.trans ?_ (by with_reducible assumption))))⟩
  all_goals
    obtain ⟨a1, a2, a3⟩ := ed_no c y (by omega)
    have hv : esV c y = 0 := by unfold esV; rw [if_neg (by omega)]
    rw [a1, a2, a3, e0]
    rw [hv, e0] at KD
    clear hT hv a1 a2 a3 e0 hf hc
    go_enter Tryz.func13, Tryz.ntmps13
    go_wp2_with fail
    (go_at_call 44; refine (KD.out _ (KT.out _ (by repeat (first | with_reducible exact Kept.refl _ | with_reducible assumption | with_reducible refine Kept.drew ?_ | with_reducible refine Kept.drewN ?_ _ | with_reducible refine Kept.alloc ?_ _ | (with_reducible refine Kept.setCell ?_ (by first | exact Nat.le_refl _ | omega | (simp; done) | (simp; omega)) _) | (with_reducible refine Kept.trans ?_ (by with_reducible assumption)))))).mono ?_; rintro e w1 ⟨rfl, hk1⟩)
    have hB1_1 := hk1
    obtain ⟨hc1_1, hf1_1⟩ := kept_cells hB1_1
    have hz1_0_1 : w.heap.size < w1.heap.size := by have := hB1_1.size; simp at this; omega
    go_wp2
    first
    | exact bodyPost_ret (v := .tuple #[.agg #[.int .i64 0, .int .i64 0, .int .i64 0], .int .i64 1]) (by simp [results, Tryz.results13, go_sem, *]) rfl ⟨rfl, (by repeat (first | with_reducible exact Kept.refl _ | with_reducible assumption | with_reducible refine Kept.drew ?_ | with_reducible refine Kept.drewN ?_ _ | with_reducible refine Kept.alloc ?_ _ | (with_reducible refine Kept.setCell ?_ (by first | exact Nat.le_refl _ | omega | (simp; done) | (simp; omega)) _) | (with_reducible refine Kept.trans ?_ (by with_reducible assumption))))⟩
    | exact bodyPost_ret (v := .tuple #[.agg #[.int .i64 0, .int .i64 0, .int .i64 0], .int .i64 3]) (by simp [results, Tryz.results13, go_sem, *]) rfl ⟨rfl, (by repeat (first | with_reducible exact Kept.refl _ | with_reducible assumption | with_reducible refine Kept.drew ?_ | with_reducible refine Kept.drewN ?_ _ | with_reducible refine Kept.alloc ?_ _ | (with_reducible refine Kept.setCell ?_ (by first | exact Nat.le_refl _ | omega | (simp; done) | (simp; omega)) _) | (with_reducible refine Kept.trans ?_ (by with_reducible assumption))))⟩
def offV (c y m d : Int) : Int := if nmE c y m d = 0 then cN c y m d - esN c y else 0
end Go.Proofs.YtblaphkaklocfaaGreatDoor
/- Contracts: reference 09: NewMoon, Fails, FullMoon; reference 10: Day, Date. -/
namespace Go.Proofs.YtblaphkaklocfaaGreatDoor
open Go.ChangeShapes Go.WideShapes Go.ChangeAt Go.RowKit
set_option maxHeartbeats 800000
set_option maxRecDepth 20000

theorem rNewMoon_ok (c y m d : Int) (w : World) (h : Fit c y) :
    Calls Tryz.prog 218 #[.int .i64 c, .agg #[.int .i64 y, .int .i64 m, .int .i64 d]] w fun e w' => e = .returned (.bool (bears m d (labN c y))) ∧ Kept w w' := by
  have KL := Lib.hid (fun w => rELabel_ok c y w h)
  have KB := Lib.hid (fun w => rBears_of m d (labN c y) w)
  have hb := labN_bounds c y
  clear h
  generalize labN c y = l at *
  generalize bears m d l = r at *
  go_enter Tryz.func218, Tryz.ntmps218
  go_wp2
  go_region_held3 (fun w' => Kept (w.alloc (.cells #[.int .i64 y, .int .i64 m, .int .i64 d] 29)) w' ∧ (∀ b o, b < (w.alloc (.cells #[.int .i64 y, .int .i64 m, .int .i64 d] 29)).heap.size → w'.cell? ⟨b, o, none⟩ = (w.alloc (.cells #[.int .i64 y, .int .i64 m, .int .i64 d] 29)).cell? ⟨b, o, none⟩)) (first | exact held_of (Kept.drew (Kept.refl _)) | exact held_of (Kept.trans (And.left (by assumption)) (by assumption))) (first | (go_at_call 38; (with_reducible refine (KB.out _).mono ?_); rintro e w1 ⟨rfl, hk1⟩) | (go_at_call 37; (with_reducible refine (KL.out _).mono ?_); rintro e w1 ⟨rfl, rfl⟩))
  go_wp2
  go_ret
  exact ⟨rfl, (by repeat (first | with_reducible exact Kept.refl _ | with_reducible assumption | with_reducible refine Kept.drew ?_ | with_reducible refine Kept.drewN ?_ _ | with_reducible refine Kept.alloc ?_ _ | (with_reducible refine Kept.setCell ?_ (by first | exact Nat.le_refl _ | omega | (simp; done) | (simp; omega)) _) | (with_reducible refine Kept.trans ?_ (by with_reducible assumption))))⟩
theorem rFullMoon_ok (k y : Int) (w : World) (h : Fit k y) :
    Calls Tryz.prog 164 #[.int .i64 k, .int .i64 y] w fun e w' => e = .returned (.agg #[.int .i64 y, .int .i64 (dmo (moonI k y)), .int .i64 (dda (moonI k y))]) ∧ Kept w w' := by
  have hb := moonI_bounds k y
  have hq := eqN_bounds k y (fit_cal k y h).2.1 (fit_cal k y h).2.2
  have hz := day_c k y 0 h (by omega) (by omega)
  rw [show dmo 0 = 3 from rfl, show dda 0 = 21 from rfl, Int.add_zero] at hz
  have KD := Lib.hid (fun w => refToDay_all k y 3 21 w)
  rw [hz.1, hz.2] at KD
  have KF := Lib.hid (fun i n w (hn : n = eqN k y + i) a b => refFromDay_all k n y (dmo i) (dda i) 0 w (by rw [hn]; exact fd_day k y i h a b))
  have KN := Lib.hid (fun i w (a : 0 ≤ i) (b : i ≤ 28) => rNewMoon_ok k y (dmo (i - 13)) (dda (i - 13)) w h)
  have KM := Lib.hid (fun i a b => moon_bears k y i a b)
  clear h hz
  generalize eqN k y = q at *
  generalize hgM : moonI k y = M at *
  go_enter Tryz.func164, Tryz.ntmps164
  have HR0 := (Dblk.new w (.int .i64 0) (.int .i64 0) (.int .i64 0)).alloc (.cells #[.int .i64 y, .int .i64 3, .int .i64 21] 29)
  have K0 := ((Kept.refl w).alloc (.cells #[.int .i64 0, .int .i64 0, .int .i64 0] 29)).alloc (.cells #[.int .i64 y, .int .i64 3, .int .i64 21] 29)
  go_wp2_with fail
  go_at_call 40
  refine (KD.out _).mono ?_
  rintro e w1 ⟨rfl, hk1⟩
  have K1 := K0.trans hk1
  have HR1 := HR0.kept hk1
  clear HR0 K0 hk1
  go_wp2_with fail
  go_loopw [6, 8] (fun n i wr => ∃ j : Int, 0 ≤ j ∧ j ≤ M ∧ n = .int .i64 (q + j) ∧ i = .int .i64 j ∧ Dblk wr w.heap.size (.int .i64 0) (.int .i64 0) (.int .i64 0) ∧ Kept w wr) (fun _ i _ => (40 - intOf i).toNat)
  case atStart => exact ⟨0, by omega, by omega, by go_num, rfl, HR1, K1⟩
  case round =>
    obtain ⟨j, j0, j1, rfl, rfl, HR, hkw⟩ := hrel
    go_wp2_with fail
    go_at_call 217
    refine (KF.out (j - 13) _ _ (by omega) (by omega) (by omega)).mono ?_
    rintro e w2 ⟨rfl, hk2⟩
    have K2 := (hkw.trans hk2).alloc (.cells #[.int .i64 y, .int .i64 (dmo (j - 13)), .int .i64 (dda (j - 13))] 29)
    have HR2 := (HR.kept hk2).alloc (.cells #[.int .i64 y, .int .i64 (dmo (j - 13)), .int .i64 (dda (j - 13))] 29)
    go_wp2_with fail
    go_at_call 218
    refine (KN.out j _ (by omega) (by omega)).mono ?_
    rw [KM.out j (by omega) (by omega)]
    rintro e w3 ⟨rfl, hk3⟩
    have K3 := K2.trans hk3
    have HR3 := HR2.kept hk3
    by_cases hj : j = M
    · rw [decide_eq_true hj]
      subst hj
      go_wp2_with fail
      go_at_call 217
      refine (KF.out j _ _ rfl (by omega) (by omega)).mono ?_
      rintro e w4 ⟨rfl, hk4⟩
      have K4 := K3.trans hk4
      obtain ⟨r1, r2, r3, r4, r5, r6⟩ := ((HR3.kept hk4).alloc (.cells #[.int .i64 y, .int .i64 (dmo j), .int .i64 (dda j)] 29)).cells
      have hz4 := ((HR3.kept hk4).alloc (.cells #[.int .i64 y, .int .i64 (dmo j), .int .i64 (dda j)] 29)).lt
      go_wp2
      exact bodyPost_ret (v := .agg #[.int .i64 y, .int .i64 (dmo j), .int .i64 (dda j)]) (by simp [results, Tryz.results164, go_sem, *]) rfl ⟨rfl, (by repeat (first | with_reducible exact Kept.refl _ | with_reducible assumption | with_reducible refine Kept.drew ?_ | with_reducible refine Kept.drewN ?_ _ | with_reducible refine Kept.alloc ?_ _ | (with_reducible refine Kept.setCell ?_ (by first | exact Nat.le_refl _ | omega | (simp; done) | (simp; omega)) _) | (with_reducible refine Kept.trans ?_ (by with_reducible assumption))))⟩
    · rw [decide_eq_false hj]
      go_wp2_with fail
      go_roundw
      case rel => exact ⟨j + 1, by omega, by omega, by go_num, by go_num, HR3, K3⟩
      case measure => simp [intOf]; omega
theorem rDay_ok (k y : Int) (w : World) (h : Fit k y) :
    Calls Tryz.prog 109 #[.int .i64 k, .int .i64 y] w fun e w' => e = .returned (.int .i64 (esN k y)) ∧ Kept w w' := by
  have hb := moonI_bounds k y
  have hq := eqN_bounds k y (fit_cal k y h).2.1 (fit_cal k y h).2.2
  have hz := day_c k y (moonI k y) h (by omega) (by omega)
  have KD := Lib.hid (fun w => refToDay_all k y (dmo (moonI k y)) (dda (moonI k y)) w)
  rw [hz.1, hz.2] at KD
  have KM := Lib.hid (fun w => rFullMoon_ok k y w h)
  have KO := Lib.hid (fun n w a b => rWOf_any n w a b)
  clear h hz
  unfold esN
  have hn : 0 ≤ eqN k y + moonI k y ∧ eqN k y + moonI k y ≤ 365250000100 := by omega
  generalize eqN k y + moonI k y = n at *
  clear hq
  have HT : Hid (0 ≤ (0 - (n + 1)) % 7 ∧ (0 - (n + 1)) % 7 ≤ 6 ∧ ∀ j : Int, 0 ≤ j → j ≤ 6 → ((n + 1 + j) % 7 = 0 ↔ j = (0 - (n + 1)) % 7)) := (show _ ∧ _ ∧ _ from ⟨by omega, by omega, fun j a b => by omega⟩)
  generalize (0 - (n + 1)) % 7 = T at *
  go_enter Tryz.func109, Tryz.ntmps109
  go_wp2_with fail
  (go_at_call 164; refine (KM.out _).mono ?_; rintro e w1 ⟨rfl, hk1⟩)
  go_wp2_with fail
  (go_at_call 40; refine (KD.out _).mono ?_; rintro e w2 ⟨rfl, hk2⟩)
  go_wp2_with fail
  go_loopw [5] (fun v wr => ∃ j : Int, 0 ≤ j ∧ j ≤ T ∧ v = .int .i64 (n + 1 + j) ∧ Kept w wr) (fun v _ => (n + 8 - intOf v).toNat)
  case atStart => exact ⟨0, by omega, HT.out.1, by go_num, (by repeat (first | with_reducible exact Kept.refl _ | with_reducible assumption | with_reducible refine Kept.drew ?_ | with_reducible refine Kept.drewN ?_ _ | with_reducible refine Kept.alloc ?_ _ | (with_reducible refine Kept.setCell ?_ (by first | exact Nat.le_refl _ | omega | (simp; done) | (simp; omega)) _) | (with_reducible refine Kept.trans ?_ (by with_reducible assumption))))⟩
  case round =>
    obtain ⟨j, j0, j1, rfl, hkw⟩ := hrel
    have hT2 := HT.out.2.1
    have hz := HT.out.2.2 j j0 (by omega)
    by_cases hj : j = T
    · have h0 := hz.2 hj
      clear hz
      subst hj
      go_wp2_with (go_at_call 16; (with_reducible refine (KO.out _ _ (by omega) (by omega)).mono ?_); rintro e w1 ⟨rfl, rfl⟩)
      go_ret
      exact ⟨rfl, hkw⟩
    · have h0 : ¬ (n + 1 + j) % 7 = 0 := fun g => hj (hz.1 g)
      clear hz
      go_wp2_with (go_at_call 16; (with_reducible refine (KO.out _ _ (by omega) (by omega)).mono ?_); rintro e w1 ⟨rfl, rfl⟩)
      go_roundw
      case rel => exact ⟨j + 1, by omega, by omega, by go_num, hkw⟩
      case measure => simp [intOf]; omega
end Go.Proofs.YtblaphkaklocfaaGreatDoor

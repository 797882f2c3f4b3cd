/- Contracts: package cycle: Years, Next, Histogram, Earliest, Period. -/
import Derived.Test.YtekgaihdfnhkpaaCyc4
set_option linter.unusedSimpArgs false
set_option linter.unusedVariables false
set_option linter.unusedSectionVars false
namespace Go.Proofs.Ytekgaihdfnhkpaa
open Go.ChangeShapes Go.WideShapes Go.ChangeAt Go.RowKit
set_option maxHeartbeats 1000000
set_option maxRecDepth 20000

theorem callN (N : Nat) (h : ∀ args w, (callFunc N args).run Try.prog w = .ok (.enter N args) w) : Hid (∀ args w, (callFunc N args).run Try.prog w = .ok (.enter N args) w) := h
theorem rg_zero (c f l : Int) (h : rgE c f l = 0) : Fit c f ∧ Fit c l ∧ f ≤ l ∧ l - f ≤ 9999 := by
  unfold rgE at h
  rcases fl_cases c f with ⟨g, e⟩ | ⟨g, e⟩ | ⟨g, e⟩
  · rw [if_neg (by omega)] at h
    rcases fl_cases c l with ⟨g1, e1⟩ | ⟨g1, e1⟩ | ⟨g1, e1⟩
    · rw [if_neg (by omega)] at h
      refine ⟨g, g1, ?_⟩
      by_cases o : l < f ∨ 9999 < l - f
      · rw [if_pos o] at h; omega
      · omega
    · rw [if_pos (by omega)] at h; omega
    · rw [if_pos (by omega)] at h; omega
  · rw [if_pos (by omega)] at h; omega
  · rw [if_pos (by omega)] at h; omega
theorem rg_bounds (c f l : Int) : 0 ≤ rgE c f l ∧ rgE c f l ≤ 3 := by
  unfold rgE
  rcases fl_cases c f with ⟨g, e⟩ | ⟨g, e⟩ | ⟨g, e⟩
  · rw [if_neg (by omega)]
    split
    · omega
    · split <;> omega
  · rw [if_pos (by omega)]; omega
  · rw [if_pos (by omega)]; omega
theorem each_no (v : Value) (c f l : Int) (w : World) (bf : -9223372036854775808 ≤ f ∧ f ≤ 9223372036854775807) (bl : -9223372036854775808 ≤ l ∧ l ≤ 9223372036854775807) (h : rgE c f l ≠ 0) :
    Calls Try.prog 23 #[.int .i64 c, .int .i64 f, .int .i64 l, v] w fun e w' => e = .returned (.int .i64 (rgE c f l)) ∧ Kept w w' := by
  have KC := Lib.hid (fun w => check_any c f l w bf bl)
  generalize rgE c f l = x at *
  clear bf bl
  go_enter Try.func23, Try.ntmps23
  go_wp2_with fail
  (go_at_call 36; refine (KC.out _).mono ?_; rintro e w1 ⟨rfl, hk1⟩)
  go_wp2
  go_ret
  exact ⟨rfl, (by repeat (first | with_reducible exact Kept.refl _ | with_reducible assumption | with_reducible refine Kept.drew ?_ | with_reducible refine Kept.drewN ?_ _ | with_reducible refine Kept.alloc ?_ _ | (with_reducible refine Kept.setCell ?_ (by first | exact Nat.le_refl _ | omega | (simp; done) | (simp; omega)) _) | (with_reducible refine Kept.trans ?_ (by with_reducible assumption))))⟩
theorem yrs_step (k f m d : Int) (i : Nat) : (if (exB m d && decide (easI k (f + i) - 1 = (m - 3) * 31 + d - 22)) = true then yrs k f m d i ++ [f + i] else yrs k f m d i) = yrs k f m d (i + 1) := by
  have h := easI_bounds k (f + i)
  rw [on_iff (easI k (f + i)) m d h.1 h.2.1]
  rfl
theorem Years_ok (c f l m d : Int) (w : World) (h : rgE c f l = 0) :
    Calls Try.prog 14 #[.int .i64 c, .int .i64 f, .int .i64 l, .int .i64 m, .int .i64 d] w fun e w' => ∃ o q, e = .returned (.tuple #[.slice o (yrs c f m d ((l - f).toNat + 1)).length q, .int .i64 0]) ∧ IsInts w' o (yrs c f m d ((l - f).toNat + 1)) ∧ Kept w w' := by
  obtain ⟨hf, hl, hfl, hd⟩ := rg_zero c f l h
  have K0 := (((Kept.refl w).alloc (.cells #[.int .i64 m] 3)).alloc (.cells #[.int .i64 d] 3)).alloc (.cells #[.slice none 0 0] 31)
  have V0 := ((Var1.new w (.int .i64 m) 3).alloc (.cells #[.int .i64 d] 3)).alloc (.cells #[.slice none 0 0] 31)
  have V1 := (Var1.new (w.alloc (.cells #[.int .i64 m] 3)) (.int .i64 d) 3).alloc (.cells #[.slice none 0 0] 31)
  have V2 := Var1.new ((w.alloc (.cells #[.int .i64 m] 3)).alloc (.cells #[.int .i64 d] 3)) (.slice none 0 0) 31
  simp only [World.size_alloc] at V1 V2
  have hsz : w.heap.size + 3 ≤ (((w.alloc (.cells #[.int .i64 m] 3)).alloc (.cells #[.int .i64 d] 3)).alloc (.cells #[.slice none 0 0] 31)).heap.size := by simp
  have KE := Lib.hid (each_ok 29 #[.pointer (some ⟨w.heap.size, 0, none⟩), .pointer (some ⟨w.heap.size + 1, 0, none⟩), .pointer (some ⟨w.heap.size + 1 + 1, 0, none⟩)] c f l
    (((w.alloc (.cells #[.int .i64 m] 3)).alloc (.cells #[.int .i64 d] 3)).alloc (.cells #[.slice none 0 0] 31))
    (fun i wr => ∃ v, i ≤ 10000 ∧ Var1 wr w.heap.size (.int .i64 m) 3 ∧ Var1 wr (w.heap.size + 1) (.int .i64 d) 3 ∧ Var1 wr (w.heap.size + 1 + 1) v 31 ∧
      wr.ownsRow (w.heap.size + 3) 3 1 v (yrs c f m d i).length ((yrs c f m d i).map (Value.int .i64)) ∧ w.heap.size + 3 ≤ wr.heap.size ∧ Kept w wr)
    (fun _ => true) hf hl hfl hd (callN _ (fun _ _ => rfl))
    (fun i wr wr' ⟨v, h0, h1, h2, h3, h4, h5, h6⟩ k => ⟨v, h0, h1.kept k, h2.kept k, h3.kept k, owns_kept h4 k, Nat.le_trans h5 k.size, h6.trans k⟩)
    ⟨.slice none 0 0, by omega, V0, V1, V2, World.ownsRow_nil _ _ _ _, hsz, K0⟩
    (fun i wr hi _ ⟨v, h0, h1, h2, h3, h4, h5, h6⟩ => by
      refine (visitY_of m d (f + i) (easI c (f + i) - 1) w.heap.size (w.heap.size + 1) (w.heap.size + 1 + 1) (w.heap.size + 3) 0 v (yrs c f m d i) w wr h1 h2 h3 h4 (by have := yrs_len c f m d i; omega) (by omega) (by omega) (by omega) (by omega) (by omega) h5 h6 (by omega)).mono ?_
      rintro e w' ⟨rfl, v', g1, g2, g3, g4, g5⟩
      rw [yrs_step] at g4
      refine ⟨rfl, v', by omega, g1, g2, g3, g4, ?_, g5⟩
      have := lt_of_block g3
      omega))
  clear h hf hl hd K0 V0 V1 V2 hsz
  go_enter Try.func14, Try.ntmps14
  go_wp2_with fail
  go_at_call 23
  refine KE.out.mono ?_
  rintro e w1 ⟨rfl, k, hk, ⟨v, h0, h1, h2, h3, h4, h5, h6⟩, hst⟩
  obtain rfl : k = (l - f).toNat + 1 := by simpa using hst
  obtain ⟨o, q, rfl, hI⟩ := ints_of_owns h4
  have HI := Lib.hid hI
  have c3 := cell_of_one h3
  clear h4 hI
  go_wp2
  go_ret2
  exact ⟨o, q, rfl, HI.out, h6⟩
theorem Years_no (c f l m d : Int) (w : World) (bf : -9223372036854775808 ≤ f ∧ f ≤ 9223372036854775807) (bl : -9223372036854775808 ≤ l ∧ l ≤ 9223372036854775807) (h : rgE c f l ≠ 0) :
    Calls Try.prog 14 #[.int .i64 c, .int .i64 f, .int .i64 l, .int .i64 m, .int .i64 d] w fun e w' => e = .returned (.tuple #[.slice none 0 0, .int .i64 (rgE c f l)]) ∧ Kept w w' := by
  have KE := Lib.hid (fun v w => each_no v c f l w bf bl h)
  have V2 := Var1.new ((w.alloc (.cells #[.int .i64 m] 3)).alloc (.cells #[.int .i64 d] 3)) (.slice none 0 0) 31
  simp only [World.size_alloc] at V2
  clear bf bl h
  generalize rgE c f l = x at *
  go_enter Try.func14, Try.ntmps14
  go_wp2_with fail
  go_at_call 23
  refine (KE.out _ _).mono ?_
  rintro e w1 ⟨rfl, hk1⟩
  have c3 := cell_of_one (V2.kept hk1)
  go_wp2
  go_ret2
  exact ⟨rfl, (by repeat (first | with_reducible exact Kept.refl _ | with_reducible assumption | with_reducible refine Kept.drew ?_ | with_reducible refine Kept.drewN ?_ _ | with_reducible refine Kept.alloc ?_ _ | (with_reducible refine Kept.setCell ?_ (by first | exact Nat.le_refl _ | omega | (simp; done) | (simp; omega)) _) | (with_reducible refine Kept.trans ?_ (by with_reducible assumption))))⟩
theorem nxt_step (k f m d : Int) (i : Nat) (hi : nxt k f m d i = 0) : (if (exB m d && decide (easI k (f + i) - 1 = (m - 3) * 31 + d - 22)) = true then f + i else nxt k f m d i) = nxt k f m d (i + 1) := by
  have h := easI_bounds k (f + i)
  rw [on_iff (easI k (f + i)) m d h.1 h.2.1]
  show _ = if nxt k f m d i = 0 then (if onB k m d (f + i) then f + i else 0) else nxt k f m d i
  rw [if_pos hi, hi]
  rfl
/-- The number of years that Next looks at. -/
def nyr (y : Int) : Nat := (min (y + 9999) 1000000000 - y).toNat + 1
def nxE (r : Int) : Int := if r = 0 then 3 else 0
theorem nxE_0 : nxE 0 = 3 := by decide
theorem nxE_1 (r : Int) (h : r ≠ 0) : nxE r = 0 := if_neg h
theorem Next_ok (c y m d : Int) (w : World) (hf : Fit c y) :
    Calls Try.prog 9 #[.int .i64 c, .int .i64 y, .int .i64 m, .int .i64 d] w fun e w' => e = .returned (.tuple #[.int .i64 (nxt c y m d (nyr y)), .int .i64 (nxE (nxt c y m d (nyr y)))]) ∧ Kept w w' := by
  have hy := (fit_cal c y hf).2
  obtain ⟨l, hL⟩ : ∃ l, l = min (y + 9999) 1000000000 := ⟨_, rfl⟩
  have hl : Fit c l := by unfold Fit at *; omega
  have hn : nyr y = (l - y).toNat + 1 := by unfold nyr; rw [hL]
  have KG := Lib.hid (fun w => Gau_any c y w)
  have e0 : flE c y = 0 := by
    rcases fl_cases c y with ⟨g, e⟩ | ⟨g, e⟩ | ⟨g, e⟩
    · exact e
    · unfold Off at g; unfold Fit at hf; omega
    · unfold Fit at hf; omega
  rw [e0] at KG
  have KE := Lib.hid (fun (b1 b2 b3 : Nat) (w1 : World) (hk : Kept w w1) (V0 : Var1 w1 b1 (.int .i64 m) 3) (V1 : Var1 w1 b2 (.int .i64 d) 3) (V2 : Var1 w1 b3 (.int .i64 0) 3) (q1 : b1 ≠ b3) (q2 : b2 ≠ b3) (q3 : w.heap.size ≤ b3) =>
    each_ok 24 #[.pointer (some ⟨b1, 0, none⟩), .pointer (some ⟨b2, 0, none⟩), .pointer (some ⟨b3, 0, none⟩)] c y l w1
    (fun i wr => Var1 wr b1 (.int .i64 m) 3 ∧ Var1 wr b2 (.int .i64 d) 3 ∧ Var1 wr b3 (.int .i64 (nxt c y m d i)) 3 ∧ Kept w wr)
    (fun i => decide (nxt c y m d (i + 1) = 0)) hf hl (by omega) (by omega) (callN _ (fun _ _ => rfl))
    (fun i wr wr' ⟨h1, h2, h3, h4⟩ k => ⟨h1.kept k, h2.kept k, h3.kept k, h4.trans k⟩)
    ⟨V0, V1, V2, hk⟩
    (fun i wr hi hp ⟨h1, h2, h3, h4⟩ => by
      have hz : nxt c y m d i = 0 := by
        cases i with
        | zero => rfl
        | succ i => simpa using hp i (by omega)
      have hs := nxt_step c y m d i hz
      have := visitN_of m d (y + i) (easI c (y + i) - 1) (nxt c y m d i) b1 b2 b3 w wr h1 h2 h3 q1 q2 h4 q3
      rw [hs] at this
      exact this))
  have hfin : ∀ k, k ≤ (l - y).toNat + 1 → (k = (l - y).toNat + 1 ∨ 0 < k ∧ decide (nxt c y m d (k - 1 + 1) = 0) = false) → nxt c y m d k = nxt c y m d (nyr y) := by
    intro k hk h
    rcases h with h | ⟨h, h'⟩
    · rw [h, hn]
    · have e : k - 1 + 1 = k := by omega
      rw [e, decide_eq_false_iff_not] at h'
      have := nxt_stop c y m d k (nyr y - k) h'
      rw [← this, show k + (nyr y - k) = nyr y from by omega]
  have hb := nxt_bounds c y m d (nyr y) hy.1
  have HF := Lib.hid hfin
  have hl2 : l = 1000000000 ∧ 1000000000 < y + 9999 ∨ l = y + 10000 - 1 ∧ y + 9999 ≤ 1000000000 := by omega
  clear hfin hf hl hn e0 hL
  generalize nxt c y m d (nyr y) = r at *
  have K0 := ((Kept.refl w).alloc (.cells #[.int .i64 m] 3)).alloc (.cells #[.int .i64 d] 3)
  have V0 := (Var1.new w (.int .i64 m) 3).alloc (.cells #[.int .i64 d] 3)
  have V1 := Var1.new (w.alloc (.cells #[.int .i64 m] 3)) (.int .i64 d) 3
  simp only [World.size_alloc] at V1
  generalize gaY c y = a1 at *
  generalize gaM c y = a2 at *
  generalize gaD c y = a3 at *
  rcases hl2 with ⟨rfl, hl3⟩ | ⟨rfl, hl3⟩
  all_goals
    go_enter Try.func9, Try.ntmps9
    go_wp2_with fail
    go_at_call 22
    (with_reducible refine (KG.out _).mono ?_)
    rintro e w1 ⟨rfl, hk1⟩
    have hz1 : w.heap.size + 2 ≤ w1.heap.size := by have := hk1.size; simp at this; omega
    have V2 := Var1.new (w1.alloc (.cells #[.int .i64 a1, .int .i64 a2, .int .i64 a3] 35)) (.int .i64 0) 3
    rw [World.size_alloc] at V2
    have K1 := ((K0.trans hk1).alloc (.cells #[.int .i64 a1, .int .i64 a2, .int .i64 a3] 35)).alloc (.cells #[.int .i64 0] 3)
    have U0 := ((V0.kept hk1).alloc (.cells #[.int .i64 a1, .int .i64 a2, .int .i64 a3] 35)).alloc (.cells #[.int .i64 0] 3)
    have U1 := ((V1.kept hk1).alloc (.cells #[.int .i64 a1, .int .i64 a2, .int .i64 a3] 35)).alloc (.cells #[.int .i64 0] 3)
    have KK := Lib.hid (KE.out _ _ _ _ K1 U0 U1 V2 (by omega) (by omega) (by omega))
    clear V0 V1 V2 U0 U1 K0 K1
    go_wp2_with fail
    go_at_call 23
    refine KK.out.mono ?_
    rintro e w2 ⟨rfl, k, hk, ⟨h1, h2, h3, h4⟩, hst⟩
    have hv := HF.out k hk hst
    rw [hv] at h3
    have c3 := cell_of_one h3
    clear hst hk hv
    by_cases hr : r = 0
    · subst hr
      go_wp2
      go_ret2
      exact ⟨by rw [nxE_0]; rfl, h4⟩
    · go_wp2
      go_ret2
      exact ⟨by rw [nxE_1 r hr]; rfl, h4⟩
theorem Next_no (c y m d : Int) (w : World) (h : flE c y ≠ 0) :
    Calls Try.prog 9 #[.int .i64 c, .int .i64 y, .int .i64 m, .int .i64 d] w fun e w' => e = .returned (.tuple #[.int .i64 0, .int .i64 (flE c y)]) ∧ Kept w w' := by
  have KG := Lib.hid (fun w => Gau_any c y w)
  generalize gaY c y = a1 at *
  generalize gaM c y = a2 at *
  generalize gaD c y = a3 at *
  generalize flE c y = x at *
  go_enter Try.func9, Try.ntmps9
  go_wp2_with fail
  go_at_call 22
  (with_reducible refine (KG.out _).mono ?_)
  rintro e w1 ⟨rfl, hk1⟩
  go_wp2
  go_ret2
  exact ⟨rfl, (by repeat (first | with_reducible exact Kept.refl _ | with_reducible assumption | with_reducible refine Kept.drew ?_ | with_reducible refine Kept.drewN ?_ _ | with_reducible refine Kept.alloc ?_ _ | (with_reducible refine Kept.setCell ?_ (by first | exact Nat.le_refl _ | omega | (simp; done) | (simp; omega)) _) | (with_reducible refine Kept.trans ?_ (by with_reducible assumption))))⟩
theorem bst_step (k f : Int) (i : Nat) : (if easI k (f + i) - 1 < (bst k f i).2 then (f + i, easI k (f + i) - 1) else ((bst k f i).1, (bst k f i).2)) = bst k f (i + 1) := rfl
theorem Earliest_ok (c f l : Int) (w : World) (h : rgE c f l = 0) :
    Calls Try.prog 17 #[.int .i64 c, .int .i64 f, .int .i64 l] w fun e w' => e = .returned (.tuple #[.int .i64 (bst c f ((l - f).toNat + 1)).1, .int .i64 0]) ∧ Kept w w' := by
  obtain ⟨hf, hl, hfl, hd⟩ := rg_zero c f l h
  have K0 := ((Kept.refl w).alloc (.cells #[.int .i64 0] 3)).alloc (.cells #[.int .i64 35] 3)
  have V0 := (Var1.new w (.int .i64 0) 3).alloc (.cells #[.int .i64 35] 3)
  have V1 := Var1.new (w.alloc (.cells #[.int .i64 0] 3)) (.int .i64 35) 3
  simp only [World.size_alloc] at V1
  have KE := Lib.hid (fun (w1 : World) (V0 : Var1 w1 w.heap.size (.int .i64 0) 3) (V1 : Var1 w1 (w.heap.size + 1) (.int .i64 35) 3) (hk : Kept w w1) =>
    each_ok 32 #[.pointer (some ⟨w.heap.size + 1, 0, none⟩), .pointer (some ⟨w.heap.size, 0, none⟩)] c f l w1
    (fun i wr => Var1 wr (w.heap.size + 1) (.int .i64 (bst c f i).2) 3 ∧ Var1 wr w.heap.size (.int .i64 (bst c f i).1) 3 ∧ Kept w wr)
    (fun i => decide (0 < (bst c f (i + 1)).2)) hf hl hfl hd (callN _ (fun _ _ => rfl))
    (fun i wr wr' ⟨h1, h2, h3⟩ k => ⟨h1.kept k, h2.kept k, h3.trans k⟩)
    ⟨V1, V0, hk⟩
    (fun i wr hi hp ⟨h1, h2, h3⟩ => by
      have := visitE_of (f + i) (easI c (f + i) - 1) (bst c f i).1 (bst c f i).2 (w.heap.size + 1) w.heap.size w wr h1 h2 (by omega) h3 (by omega) (by omega)
      rw [bst_step] at this
      exact this))
  have hfin : ∀ k, k ≤ (l - f).toNat + 1 → (k = (l - f).toNat + 1 ∨ 0 < k ∧ decide (0 < (bst c f (k - 1 + 1)).2) = false) → bst c f k = bst c f ((l - f).toNat + 1) := by
    intro k hk h
    rcases h with h | ⟨h, h'⟩
    · rw [h]
    · have e : k - 1 + 1 = k := by omega
      rw [e, decide_eq_false_iff_not] at h'
      have := bst_stop c f k ((l - f).toNat + 1 - k) (by omega)
      rw [← this, show k + ((l - f).toNat + 1 - k) = (l - f).toNat + 1 from by omega]
  have HF := Lib.hid hfin
  have KK := Lib.hid (KE.out _ V0 V1 K0)
  clear hfin hf hl hd h V0 V1 K0 KE
  generalize hr : (bst c f ((l - f).toNat + 1)).1 = r
  have HR := Lib.hid hr
  clear hr
  go_enter Try.func17, Try.ntmps17
  go_wp2_with fail
  go_at_call 23
  refine KK.out.mono ?_
  rintro e w2 ⟨rfl, k, hk, ⟨h1, h2, h3⟩, hst⟩
  have hv := HF.out k hk hst
  rw [hv, HR.out] at h2
  have c3 := cell_of_one h2
  clear hst hk hv HF KK h1 HR
  go_wp2
  go_ret2
  exact ⟨rfl, h3⟩
theorem Earliest_no (c f l : Int) (w : World) (bf : -9223372036854775808 ≤ f ∧ f ≤ 9223372036854775807) (bl : -9223372036854775808 ≤ l ∧ l ≤ 9223372036854775807) (h : rgE c f l ≠ 0) :
    Calls Try.prog 17 #[.int .i64 c, .int .i64 f, .int .i64 l] w fun e w' => e = .returned (.tuple #[.int .i64 0, .int .i64 (rgE c f l)]) ∧ Kept w w' := by
  have KE := Lib.hid (fun v w => each_no v c f l w bf bl h)
  have V0 := (Var1.new w (.int .i64 0) 3).alloc (.cells #[.int .i64 35] 3)
  clear bf bl h
  generalize rgE c f l = x at *
  go_enter Try.func17, Try.ntmps17
  go_wp2_with fail
  go_at_call 23
  refine (KE.out _ _).mono ?_
  rintro e w1 ⟨rfl, hk1⟩
  have c3 := cell_of_one (V0.kept hk1)
  go_wp2
  go_ret2
  exact ⟨rfl, (by repeat (first | with_reducible exact Kept.refl _ | with_reducible assumption | with_reducible refine Kept.drew ?_ | with_reducible refine Kept.drewN ?_ _ | with_reducible refine Kept.alloc ?_ _ | (with_reducible refine Kept.setCell ?_ (by first | exact Nat.le_refl _ | omega | (simp; done) | (simp; omega)) _) | (with_reducible refine Kept.trans ?_ (by with_reducible assumption))))⟩
/-- A histogram of the n years from f on. -/
def hst (c f : Int) (n : Nat) : Nat → Int := fun j => (cnt c f (j : Int) n : Int)
theorem hst_step (c f : Int) (i : Nat) : (fun j => if j = (easI c (f + i) - 1).toNat then hst c f i j + 1 else hst c f i j) = hst c f (i + 1) := by
  have h := easI_idx c (f + i)
  funext j
  unfold hst
  have e : cnt c f (j : Int) (i + 1) = if easI c (f + i) - 1 = (j : Int) then cnt c f (j : Int) i + 1 else cnt c f (j : Int) i := rfl
  by_cases g : j = (easI c (f + i) - 1).toNat
  · rw [if_pos g, e, if_pos (by omega)]; simp
  · rw [if_neg g, e, if_neg (by omega)]
theorem HBlk.new (w : World) : HBlk (w.alloc (.cells (hCells (fun _ => 0)).toArray 42)) w.heap.size (fun _ => 0) := by
  show (w.heap.push _)[w.heap.size]? = _
  exact Array.getElem?_push_size
theorem HBlk.alloc {w : World} {b : Nat} {h : Nat → Int} (q : HBlk w b h) (o : Obj) : HBlk (w.alloc o) b h := q.kept ((Kept.refl w).alloc o)
theorem hist_each (c f l : Int) (w : World) (h : rgE c f l = 0) (w1 : World) (b : Nat) (V0 : HBlk w1 b (fun _ => 0)) (hb : w.heap.size ≤ b) (K0 : Kept w w1) :
    Calls Try.prog 23 #[.int .i64 c, .int .i64 f, .int .i64 l, .func (.func 34) #[] #[.pointer (some ⟨b, 0, none⟩)]] w1 fun e w' => e = .returned (.int .i64 0) ∧ HBlk w' b (hst c f ((l - f).toNat + 1)) ∧ Kept w w' := by
  obtain ⟨hf, hl, hfl, hd⟩ := rg_zero c f l h
  refine (each_ok 34 #[.pointer (some ⟨b, 0, none⟩)] c f l w1
    (fun i wr => i ≤ 10000 ∧ HBlk wr b (hst c f i) ∧ Kept w wr)
    (fun i => true) hf hl hfl hd (callN _ (fun _ _ => rfl))
    (fun i wr wr' ⟨h0, h1, h2⟩ k => ⟨h0, h1.kept k, h2.trans k⟩)
    ⟨by omega, V0, K0⟩
    (fun i wr hi hp ⟨h0, h1, h2⟩ => by
      refine (visitH_of (f + i) (easI c (f + i) - 1) b (hst c f i) w wr h1 (easI_idx c (f + i)) (fun j => by have := cnt_le c f (j : Int) i; unfold hst; omega) h2 hb).mono ?_
      rintro e w' ⟨rfl, g1, g2⟩
      rw [hst_step] at g1
      exact ⟨rfl, by omega, g1, g2⟩)).mono ?_
  rintro e w' ⟨rfl, k, hk, ⟨_, h1, h2⟩, hs⟩
  obtain rfl : k = (l - f).toNat + 1 := by simpa using hs
  exact ⟨rfl, h1, h2⟩
theorem zero_cells : (hCells (fun _ => 0)).toArray = #[.int .i64 0, .int .i64 0, .int .i64 0, .int .i64 0, .int .i64 0, .int .i64 0, .int .i64 0, .int .i64 0, .int .i64 0, .int .i64 0, .int .i64 0, .int .i64 0, .int .i64 0, .int .i64 0, .int .i64 0, .int .i64 0, .int .i64 0, .int .i64 0, .int .i64 0, .int .i64 0, .int .i64 0, .int .i64 0, .int .i64 0, .int .i64 0, .int .i64 0, .int .i64 0, .int .i64 0, .int .i64 0, .int .i64 0, .int .i64 0, .int .i64 0, .int .i64 0, .int .i64 0, .int .i64 0, .int .i64 0] := by rfl
theorem Kept.setRow {a b : World} (h : Kept a b) {g : Nat} (hg : a.heap.size ≤ g) (cs : Array Value) : Kept a (b.setRow g cs) :=
  ⟨h.os, h.tape, h.output, by rw [setRow_size]; exact h.size, fun k hk => (setRow_other b g k cs (by omega)).trans (h.block k hk)⟩
theorem HBlk.setRow {w : World} {b : Nat} {h : Nat → Int} (q : HBlk w b h) (h' : Nat → Int) : HBlk (w.setRow b (hCells h').toArray) b h' := setRow_heap w b _ _ _ _ q
theorem hSize (h : Nat → Int) : (hCells h).toArray.size = 35 := by simp [hCells]
theorem info_hist : (Try.prog.info? 42).map (·.size) = some 35 := by kernel_rfl
theorem hOne (h : Nat → Int) : (hCells h).toArray.all (·.oneCell') = true := by
  simp [hCells, Value.oneCell']
theorem load_row_h {w : World} {b : Nat} {h : Nat → Int} (q : HBlk w b h) : (loadVar 42 ⟨b, 0, none⟩).run Try.prog w = .ok (.agg (hCells h).toArray) w :=
  run_loadVar_row w b 42 42 _ _ _ q Try.underlying42 rfl (by rw [hSize]; exact info_hist)
theorem hist_end {w : World} {b : Nat} {h : Nat → Int} (q : HBlk w b h) (v : Value) :
    (((asAddr (.pointer (some ⟨b, 0, none⟩))).run Try.prog w).andThen fun a w₁ => ((loadVar 42 a).run Try.prog w₁).andThen fun u w₂ => Result.ok (Value.tuple #[u, v]) w₂) = Result.ok (Value.tuple #[.agg (hCells h).toArray, v]) w := by
  rw [show (asAddr (.pointer (some ⟨b, 0, none⟩))).run Try.prog w = .ok ⟨b, 0, none⟩ w from rfl]
  show (((loadVar 42 ⟨b, 0, none⟩).run Try.prog w).andThen fun u w₂ => Result.ok (Value.tuple #[u, v]) w₂) = _
  rw [load_row_h q]
  rfl
theorem Histogram_ok (c f l : Int) (w : World) (h : rgE c f l = 0) :
    Calls Try.prog 19 #[.int .i64 c, .int .i64 f, .int .i64 l] w fun e w' => e = .returned (.tuple #[.agg (hCells (hst c f ((l - f).toNat + 1))).toArray, .int .i64 0]) ∧ Kept w w' := by
  have N0 := HBlk.new w
  have N1 := HBlk.new (w.alloc (.cells (hCells (fun _ => 0)).toArray 42))
  rw [zero_cells] at N0 N1
  rw [World.size_alloc] at N1
  have KK := Lib.hid (hist_each c f l (w.alloc (.cells #[.int .i64 0, .int .i64 0, .int .i64 0, .int .i64 0, .int .i64 0, .int .i64 0, .int .i64 0, .int .i64 0, .int .i64 0, .int .i64 0, .int .i64 0, .int .i64 0, .int .i64 0, .int .i64 0, .int .i64 0, .int .i64 0, .int .i64 0, .int .i64 0, .int .i64 0, .int .i64 0, .int .i64 0, .int .i64 0, .int .i64 0, .int .i64 0, .int .i64 0, .int .i64 0, .int .i64 0, .int .i64 0, .int .i64 0, .int .i64 0, .int .i64 0, .int .i64 0, .int .i64 0, .int .i64 0, .int .i64 0] 42)) h _ _ N1 (by rw [World.size_alloc]; exact Nat.le_refl _) ((Kept.refl _).alloc _))
  generalize hst c f ((l - f).toNat + 1) = H at *
  clear h N1
  go_enter Try.func19, Try.ntmps19
  go_wp2_with fail
  go_at_call 23
  refine KK.out.mono ?_
  rintro e w2 ⟨rfl, h1, h2⟩
  have N2 := N0.kept h2
  have R1 : (Try.prog.info? 42).map (·.size) = some (hCells H).toArray.size := by rw [hSize]; exact info_hist
  have R2 := Lib.hid (N2.setRow H)
  have K2 := Lib.hid ((((Kept.refl w).alloc _).trans h2).setRow (Nat.le_refl w.heap.size) (hCells H).toArray)
  have h1' : w2.heap[w.heap.size + 1]? = some (.cells (hCells H).toArray 42 (0, 0)) := h1
  have N2' : w2.heap[w.heap.size]? = some (.cells (hCells (fun _ => 0)).toArray 42 (0, 0)) := N2
  clear h1 N2 N0 h2 KK
  go_wp2_with (first
    | (refine wpList_load_row rfl 42 _ rfl (w.heap.size + 1) rfl 42 _ _ _ h1' Try.underlying42 rfl R1 ?_)
    | (refine wpList_store_row rfl 42 _ _ rfl w.heap.size _ rfl rfl 42 _ N2' R1 (by simp only [hSize]) (hOne H) ?_))
  refine bodyPost_ret (v := .tuple #[.agg (hCells H).toArray, .int .i64 0]) ((results_cell_tmp Try.results19 _ _ _).trans ?_) rfl ⟨rfl, K2.out⟩
  exact hist_end R2.out _
theorem Histogram_no (c f l : Int) (w : World) (bf : -9223372036854775808 ≤ f ∧ f ≤ 9223372036854775807) (bl : -9223372036854775808 ≤ l ∧ l ≤ 9223372036854775807) (h : rgE c f l ≠ 0) :
    Calls Try.prog 19 #[.int .i64 c, .int .i64 f, .int .i64 l] w fun e w' => e = .returned (.tuple #[.agg (hCells (fun _ => 0)).toArray, .int .i64 (rgE c f l)]) ∧ Kept w w' := by
  have KE := Lib.hid (fun v w => each_no v c f l w bf bl h)
  have N0 := HBlk.new w
  have N1 := HBlk.new (w.alloc (.cells (hCells (fun _ => 0)).toArray 42))
  rw [zero_cells] at N0 N1
  rw [World.size_alloc] at N1
  obtain ⟨H, hH⟩ : ∃ H : Nat → Int, H = fun _ => 0 := ⟨_, rfl⟩
  rw [← hH] at N0 N1 ⊢
  clear hH
  clear bf bl h
  generalize rgE c f l = x at *
  go_enter Try.func19, Try.ntmps19
  go_wp2_with fail
  go_at_call 23
  refine (KE.out _ _).mono ?_
  rintro e w2 ⟨rfl, h2⟩
  have N2 := N0.kept (((Kept.refl _).alloc _).trans h2)
  have h1 := N1.kept h2
  have R1 : (Try.prog.info? 42).map (·.size) = some (hCells H).toArray.size := by rw [hSize]; exact info_hist
  have R2 := Lib.hid (N2.setRow H)
  have K2 := Lib.hid (((((Kept.refl w).alloc _).alloc _).trans h2).setRow (Nat.le_refl w.heap.size) (hCells H).toArray)
  have h1' : w2.heap[w.heap.size + 1]? = some (.cells (hCells H).toArray 42 (0, 0)) := h1
  have N2' : w2.heap[w.heap.size]? = some (.cells (hCells H).toArray 42 (0, 0)) := N2
  clear h1 N2 N0 N1 h2 KE
  go_wp2_with (first
    | (refine wpList_load_row rfl 42 _ rfl (w.heap.size + 1) rfl 42 _ _ _ h1' Try.underlying42 rfl R1 ?_)
    | (refine wpList_store_row rfl 42 _ _ rfl w.heap.size _ rfl rfl 42 _ N2' R1 (by simp only [hSize]) (hOne H) ?_))

  refine bodyPost_ret (v := .tuple #[.agg (hCells H).toArray, .int .i64 x]) ((results_cell_tmp Try.results19 _ _ _).trans ?_) rfl ⟨rfl, K2.out⟩
  exact hist_end R2.out _
theorem Period_1 (w : World) : Calls Try.prog 11 #[.int .i64 1] w fun e w' => e = .returned (.tuple #[.int .i64 532, .int .i64 0]) ∧ w = w' := by
  go_enter Try.func11, Try.ntmps11
  go_wp2
  go_ret2
  exact ⟨rfl, rfl⟩
theorem Period_2 (w : World) : Calls Try.prog 11 #[.int .i64 2] w fun e w' => e = .returned (.tuple #[.int .i64 5700000, .int .i64 0]) ∧ w = w' := by
  go_enter Try.func11, Try.ntmps11
  go_wp2
  go_ret2
  exact ⟨rfl, rfl⟩
end Go.Proofs.Ytekgaihdfnhkpaa

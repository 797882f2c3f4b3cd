/- CatalogueCheck. -/
import Derived.Test.YthhaicledbcnmaaCatAw
import Derived.Test.YthhaicledbcnmaaCatF
import Derived.Test.YthhaicledbcnmaaRows
set_option linter.unusedSimpArgs false
set_option linter.unusedVariables false
set_option linter.unusedSectionVars false
namespace Go.Proofs.Ythhaicledbcnmaa
open Go.ChangeShapes Go.WideShapes Go.ChangeAt Go.RowKit
set_option maxHeartbeats 4000000
set_option maxRecDepth 20000

theorem id_mem (L M : List Rec) (x : Nat) (h : x < L.length + M.length) : (ids L ++ ids M)[x]? = some (idAt L M x) := by
  unfold idAt ids
  by_cases g : x < L.length
  · rw [if_pos g, List.getElem?_append_left (by simpa using g), List.getElem?_map, List.getElem?_eq_getElem g]
    simp [g]
  · rw [if_neg g, List.getElem?_append_right (by simp; omega), List.length_map, List.getElem?_map, List.getElem?_eq_getElem (by omega)]
    simp [show x - L.length < M.length by omega]
theorem nodup_at {l : List ByteArray} (h : l.Nodup) (x y : Nat) (s : ByteArray) (hx : l[x]? = some s) (hy : l[y]? = some s) : x = y := by
  induction l generalizing x y with
  | nil => simp at hx
  | cons a t ih =>
    rw [List.nodup_cons] at h
    cases x with
    | zero =>
      cases y with
      | zero => rfl
      | succ y =>
        simp at hx hy
        subst hx
        exact absurd (List.mem_of_getElem? hy) h.1
    | succ x =>
      cases y with
      | zero =>
        simp at hx hy
        subst hy
        exact absurd (List.mem_of_getElem? hx) h.1
      | succ y => rw [ih h.2 x y (by simpa using hx) (by simpa using hy)]
theorem ids_apart (f : Int) (L M : List Rec) (h : catB f L M = true) (x y : Nat) (hx : x < L.length + M.length) (hy : y < L.length + M.length) (hne : x ≠ y) : ((idAt L M x).toList == (idAt L M y).toList) = false := by
  rw [str_eq, decide_eq_false_iff_not]
  intro e
  have hc := of_decide_eq_true h
  have h1 := id_mem L M x hx
  have h2 := id_mem L M y hy
  rw [e] at h1
  exact hne (nodup_at hc.2.2.2.2.2 x y _ h1 h2)
theorem Check_core (f : Int) (o o' : Option Addr) (q q' : Nat) (L M : List Rec) (i k : Int) (xn yn : Nat) (w : World) (hL : IsRecs w o L) (hM : IsRecs w o' M) (okL : ∀ r ∈ L, r.ok) (okM : ∀ r ∈ M, r.ok)
    (bi : 0 ≤ i ∧ i ≤ 255) (bk : 0 ≤ k ∧ k ≤ 255) (h8 : L.length ≤ 8) (h30 : M.length ≤ 30) (hn : 1 ≤ L.length + M.length) (hx : i % ((L.length : Int) + (M.length : Int)) = xn) (hy : k % ((L.length : Int) + (M.length : Int)) = yn) (hx2 : xn < L.length + M.length) (hy2 : yn < L.length + M.length) :
    Calls Try.prog 4 #[.agg #[.int .i64 f, .slice o L.length q, .slice o' M.length q'], .int .u8 i, .int .u8 k] w fun e w' => e = .returned (.bool true) ∧ Kept w w' := by
  obtain ⟨bi1, bi2⟩ := bi
  obtain ⟨bk1, bk2⟩ := bk
  have KC := Lib.hid (fun w' (k : Kept w w') => CCheck_any f o o' q q' L M w' (hL.kept k) (hM.kept k) okL okM)
  have KF := Lib.hid (fun w => CFew_any f o o' q q' L M w)
  rw [decide_eq_true ⟨h8, h30⟩] at KF
  have KI := Lib.hid (fun (n : Nat) (hn : n < L.length + M.length) w' (k : Kept w w') => CId_any f o o' q q' L M n w' (hL.kept k) (hM.kept k) (by omega) (by omega) (by omega))
  have HL := Lib.hid hL
  have HM := Lib.hid hM
  have HkL := Lib.hid (fun j hj => okL _ (mem_at L j hj))
  have HkM := Lib.hid (fun j hj => okM _ (mem_at M j hj))
  clear hL hM okL okM
  have g0 : ((L.length : Int) + (M.length : Int) == 0) = false := beq_false_of_ne (by omega)
  cases hb : catB f L M with
  | false =>
    rw [hb, chV_f] at KC
    clear hb KI HL HM HkL HkM
    by_cases hxl : xn < L.length
    · go_enter Try.func4, Try.ntmps4
      go_wp2_with fail
      (go_at_call 7; refine (Cat_awake _).mono ?_; rintro e w1 ⟨rfl, hk1⟩)
      have hB1_1 := hk1
      obtain ⟨hc1_1, hf1_1⟩ := kept_cells hB1_1
      have hz1_0_1 : w.heap.size < w1.heap.size := by have := hB1_1.size; simp at this; omega
      go_wp2_with fail
      (go_at_call 17; refine (KF.out _).mono ?_; rintro e w2 ⟨rfl, hk2⟩)
      have hB1_2 := Kept.trans hB1_1 hk2
      obtain ⟨hc1_2, hf1_2⟩ := kept_cells hB1_2
      have hz1_0_2 : w.heap.size < w2.heap.size := by have := hB1_2.size; simp at this; omega
      go_wp2_with fail
      (go_at_call 14; refine (KC.out _ (by repeat (first | with_reducible exact Kept.refl _ | with_reducible assumption | with_reducible refine Kept.drew ?_ | with_reducible refine Kept.drewN ?_ _ | with_reducible refine Kept.alloc ?_ _ | (with_reducible refine Kept.setCell ?_ (by first | exact Nat.le_refl _ | omega | (simp; done) | (simp; omega)) _) | (with_reducible refine Kept.trans ?_ (by with_reducible assumption))))).mono ?_; rintro e w3 ⟨rfl, hk3⟩)
      have hB1_3 := Kept.trans hB1_2 hk3
      obtain ⟨hc1_3, hf1_3⟩ := kept_cells hB1_3
      have hz1_0_3 : w.heap.size < w3.heap.size := by have := hB1_3.size; simp at this; omega
      go_wp2_with fail
      go_quiet (fail)
      go_wp2
      go_ret
      exact ⟨rfl, (by repeat (first | with_reducible exact Kept.refl _ | with_reducible assumption | with_reducible refine Kept.drew ?_ | with_reducible refine Kept.drewN ?_ _ | with_reducible refine Kept.alloc ?_ _ | (with_reducible refine Kept.setCell ?_ (by first | exact Nat.le_refl _ | omega | (simp; done) | (simp; omega)) _) | (with_reducible refine Kept.trans ?_ (by with_reducible assumption))))⟩
    · go_enter Try.func4, Try.ntmps4
      go_wp2_with fail
      (go_at_call 7; refine (Cat_awake _).mono ?_; rintro e w1 ⟨rfl, hk1⟩)
      have hB1_1 := hk1
      obtain ⟨hc1_1, hf1_1⟩ := kept_cells hB1_1
      have hz1_0_1 : w.heap.size < w1.heap.size := by have := hB1_1.size; simp at this; omega
      go_wp2_with fail
      (go_at_call 17; refine (KF.out _).mono ?_; rintro e w2 ⟨rfl, hk2⟩)
      have hB1_2 := Kept.trans hB1_1 hk2
      obtain ⟨hc1_2, hf1_2⟩ := kept_cells hB1_2
      have hz1_0_2 : w.heap.size < w2.heap.size := by have := hB1_2.size; simp at this; omega
      go_wp2_with fail
      (go_at_call 14; refine (KC.out _ (by repeat (first | with_reducible exact Kept.refl _ | with_reducible assumption | with_reducible refine Kept.drew ?_ | with_reducible refine Kept.drewN ?_ _ | with_reducible refine Kept.alloc ?_ _ | (with_reducible refine Kept.setCell ?_ (by first | exact Nat.le_refl _ | omega | (simp; done) | (simp; omega)) _) | (with_reducible refine Kept.trans ?_ (by with_reducible assumption))))).mono ?_; rintro e w3 ⟨rfl, hk3⟩)
      have hB1_3 := Kept.trans hB1_2 hk3
      obtain ⟨hc1_3, hf1_3⟩ := kept_cells hB1_3
      have hz1_0_3 : w.heap.size < w3.heap.size := by have := hB1_3.size; simp at this; omega
      go_wp2_with fail
      go_quiet (fail)
      go_wp2
      go_ret
      exact ⟨rfl, (by repeat (first | with_reducible exact Kept.refl _ | with_reducible assumption | with_reducible refine Kept.drew ?_ | with_reducible refine Kept.drewN ?_ _ | with_reducible refine Kept.alloc ?_ _ | (with_reducible refine Kept.setCell ?_ (by first | exact Nat.le_refl _ | omega | (simp; done) | (simp; omega)) _) | (with_reducible refine Kept.trans ?_ (by with_reducible assumption))))⟩
  | true =>
    rw [hb, chV_t] at KC
    have HA := Lib.hid (fun hne => ids_apart f L M hb xn yn hx2 hy2 hne)
    have hc := of_decide_eq_true hb
    have HSe := Lib.hid (fun j hj => hc.2.2.2.1 _ (mem_at L j hj))
    have HFe := Lib.hid (fun j hj => hc.2.2.2.2.1 _ (mem_at M j hj))
    clear hb hc
    by_cases hxy : xn = yn
    · subst hxy
      by_cases hxl : xn < L.length
      · go_enter Try.func4, Try.ntmps4
        go_wp2_with fail
        (go_at_call 7; refine (Cat_awake _).mono ?_; rintro e w1 ⟨rfl, hk1⟩)
        have hB1_1 := hk1
        obtain ⟨hc1_1, hf1_1⟩ := kept_cells hB1_1
        have hz1_0_1 : w.heap.size < w1.heap.size := by have := hB1_1.size; simp at this; omega
        go_wp2_with fail
        (go_at_call 17; refine (KF.out _).mono ?_; rintro e w2 ⟨rfl, hk2⟩)
        have hB1_2 := Kept.trans hB1_1 hk2
        obtain ⟨hc1_2, hf1_2⟩ := kept_cells hB1_2
        have hz1_0_2 : w.heap.size < w2.heap.size := by have := hB1_2.size; simp at this; omega
        go_wp2_with fail
        (go_at_call 14; refine (KC.out _ (by repeat (first | with_reducible exact Kept.refl _ | with_reducible assumption | with_reducible refine Kept.drew ?_ | with_reducible refine Kept.drewN ?_ _ | with_reducible refine Kept.alloc ?_ _ | (with_reducible refine Kept.setCell ?_ (by first | exact Nat.le_refl _ | omega | (simp; done) | (simp; omega)) _) | (with_reducible refine Kept.trans ?_ (by with_reducible assumption))))).mono ?_; rintro e w3 ⟨rfl, hk3⟩)
        have hB1_3 := Kept.trans hB1_2 hk3
        obtain ⟨hc1_3, hf1_3⟩ := kept_cells hB1_3
        have hz1_0_3 : w.heap.size < w3.heap.size := by have := hB1_3.size; simp at this; omega
        go_wp2_with fail
        have K3 : Kept w w3 := (by repeat (first | with_reducible exact Kept.refl _ | with_reducible assumption | with_reducible refine Kept.drew ?_ | with_reducible refine Kept.drewN ?_ _ | with_reducible refine Kept.alloc ?_ _ | (with_reducible refine Kept.setCell ?_ (by first | exact Nat.le_refl _ | omega | (simp; done) | (simp; omega)) _) | (with_reducible refine Kept.trans ?_ (by with_reducible assumption))))
        have KX := Lib.hid (fun w' (k : Kept w3 w') => KI.out xn hx2 w' (K3.trans k))
        go_region_held3 (fun w' => Kept (w3) w' ∧ (∀ b o, b < (w3).heap.size → w'.cell? ⟨b, o, none⟩ = (w3).cell? ⟨b, o, none⟩)) (first | exact held_of (Kept.drew (Kept.refl _)) | exact held_of (Kept.trans (And.left (by assumption)) (by assumption))) (first | (go_at_call 18; (with_reducible refine (KX.out _ (And.left (by assumption))).mono ?_); rintro e v1 ⟨rfl, hq1⟩))
        all_goals
          have hk4 : Kept w3 v1 := And.left (by assumption)
          have K7 := K3.trans hk4
          have hbx := hB1_3.trans hk4
          obtain ⟨hcv, hfv⟩ := kept_cells hbx
          have hzv : w.heap.size < v1.heap.size := by have := hbx.size; simp at this; omega
          obtain ⟨b, off, rfl, c0, c1, c2, c3, c4, c5, c6, c7, c8⟩ := (HL.out.kept K7).cells xn hxl
          have hok := HkL.out xn hxl
          have hse : seaB (L[xn]!).s (L[xn]!).a (L[xn]!).b (L[xn]!).k (L[xn]!).m (L[xn]!).d (L[xn]!).o (L[xn]!).wd (L[xn]!).c = true := HSe.out xn hxl
          generalize L[xn]! = r at *
          obtain ⟨s, xa, xb, xk, xm, xd, xo, xw, xc⟩ := r
          dsimp only at c0 c1 c2 c3 c4 c5 c6 c7 c8 hse
          have KS := Lib.hid (fun w => Season_any s xa xb xk xm xd xo xw xc w hok.2)
          rw [hse] at KS
          clear hse hok HA
          go_wp2_with fail
          go_at_call 10
          (with_reducible refine (KS.out _).mono ?_)
          rintro e w9 ⟨rfl, hk9⟩
          go_wp2
          go_ret
          exact ⟨rfl, K7.trans hk9⟩
      · go_enter Try.func4, Try.ntmps4
        go_wp2_with fail
        (go_at_call 7; refine (Cat_awake _).mono ?_; rintro e w1 ⟨rfl, hk1⟩)
        have hB1_1 := hk1
        obtain ⟨hc1_1, hf1_1⟩ := kept_cells hB1_1
        have hz1_0_1 : w.heap.size < w1.heap.size := by have := hB1_1.size; simp at this; omega
        go_wp2_with fail
        (go_at_call 17; refine (KF.out _).mono ?_; rintro e w2 ⟨rfl, hk2⟩)
        have hB1_2 := Kept.trans hB1_1 hk2
        obtain ⟨hc1_2, hf1_2⟩ := kept_cells hB1_2
        have hz1_0_2 : w.heap.size < w2.heap.size := by have := hB1_2.size; simp at this; omega
        go_wp2_with fail
        (go_at_call 14; refine (KC.out _ (by repeat (first | with_reducible exact Kept.refl _ | with_reducible assumption | with_reducible refine Kept.drew ?_ | with_reducible refine Kept.drewN ?_ _ | with_reducible refine Kept.alloc ?_ _ | (with_reducible refine Kept.setCell ?_ (by first | exact Nat.le_refl _ | omega | (simp; done) | (simp; omega)) _) | (with_reducible refine Kept.trans ?_ (by with_reducible assumption))))).mono ?_; rintro e w3 ⟨rfl, hk3⟩)
        have hB1_3 := Kept.trans hB1_2 hk3
        obtain ⟨hc1_3, hf1_3⟩ := kept_cells hB1_3
        have hz1_0_3 : w.heap.size < w3.heap.size := by have := hB1_3.size; simp at this; omega
        go_wp2_with fail
        have K3 : Kept w w3 := (by repeat (first | with_reducible exact Kept.refl _ | with_reducible assumption | with_reducible refine Kept.drew ?_ | with_reducible refine Kept.drewN ?_ _ | with_reducible refine Kept.alloc ?_ _ | (with_reducible refine Kept.setCell ?_ (by first | exact Nat.le_refl _ | omega | (simp; done) | (simp; omega)) _) | (with_reducible refine Kept.trans ?_ (by with_reducible assumption))))
        have KX := Lib.hid (fun w' (k : Kept w3 w') => KI.out xn hx2 w' (K3.trans k))
        go_region_held3 (fun w' => Kept (w3) w' ∧ (∀ b o, b < (w3).heap.size → w'.cell? ⟨b, o, none⟩ = (w3).cell? ⟨b, o, none⟩)) (first | exact held_of (Kept.drew (Kept.refl _)) | exact held_of (Kept.trans (And.left (by assumption)) (by assumption))) (first | (go_at_call 18; (with_reducible refine (KX.out _ (And.left (by assumption))).mono ?_); rintro e v1 ⟨rfl, hq1⟩))
        all_goals
          have hk4 : Kept w3 v1 := And.left (by assumption)
          have K7 := K3.trans hk4
          have hbx := hB1_3.trans hk4
          obtain ⟨hcv, hfv⟩ := kept_cells hbx
          have hzv : w.heap.size < v1.heap.size := by have := hbx.size; simp at this; omega
          obtain ⟨p, hp⟩ : ∃ p, xn = L.length + p := ⟨xn - L.length, by omega⟩
          have hpm : p < M.length := by omega
          obtain ⟨b, off, rfl, c0, c1, c2, c3, c4, c5, c6, c7, c8⟩ := (HM.out.kept K7).cells p hpm
          have hok := HkM.out p hpm
          have hse : feaB (M[p]!).s (M[p]!).a (M[p]!).b (M[p]!).k (M[p]!).m (M[p]!).d (M[p]!).o (M[p]!).wd (M[p]!).c = true := HFe.out p hpm
          generalize M[p]! = r at *
          obtain ⟨s, xa, xb, xk, xm, xd, xo, xw, xc⟩ := r
          dsimp only at c0 c1 c2 c3 c4 c5 c6 c7 c8 hse
          have KS := Lib.hid (fun w => Feast_any s xa xb xk xm xd xo xw xc w hok.2)
          rw [hse] at KS
          clear hse hok HA
          subst hp
          go_wp2_with fail
          go_at_call 12
          (with_reducible refine (KS.out _).mono ?_)
          rintro e w9 ⟨rfl, hk9⟩
          go_wp2
          go_ret
          exact ⟨rfl, K7.trans hk9⟩
    · by_cases hxl : xn < L.length
      · go_enter Try.func4, Try.ntmps4
        go_wp2_with fail
        (go_at_call 7; refine (Cat_awake _).mono ?_; rintro e w1 ⟨rfl, hk1⟩)
        have hB1_1 := hk1
        obtain ⟨hc1_1, hf1_1⟩ := kept_cells hB1_1
        have hz1_0_1 : w.heap.size < w1.heap.size := by have := hB1_1.size; simp at this; omega
        go_wp2_with fail
        (go_at_call 17; refine (KF.out _).mono ?_; rintro e w2 ⟨rfl, hk2⟩)
        have hB1_2 := Kept.trans hB1_1 hk2
        obtain ⟨hc1_2, hf1_2⟩ := kept_cells hB1_2
        have hz1_0_2 : w.heap.size < w2.heap.size := by have := hB1_2.size; simp at this; omega
        go_wp2_with fail
        (go_at_call 14; refine (KC.out _ (by repeat (first | with_reducible exact Kept.refl _ | with_reducible assumption | with_reducible refine Kept.drew ?_ | with_reducible refine Kept.drewN ?_ _ | with_reducible refine Kept.alloc ?_ _ | (with_reducible refine Kept.setCell ?_ (by first | exact Nat.le_refl _ | omega | (simp; done) | (simp; omega)) _) | (with_reducible refine Kept.trans ?_ (by with_reducible assumption))))).mono ?_; rintro e w3 ⟨rfl, hk3⟩)
        have hB1_3 := Kept.trans hB1_2 hk3
        obtain ⟨hc1_3, hf1_3⟩ := kept_cells hB1_3
        have hz1_0_3 : w.heap.size < w3.heap.size := by have := hB1_3.size; simp at this; omega
        go_wp2_with fail
        have K3 : Kept w w3 := (by repeat (first | with_reducible exact Kept.refl _ | with_reducible assumption | with_reducible refine Kept.drew ?_ | with_reducible refine Kept.drewN ?_ _ | with_reducible refine Kept.alloc ?_ _ | (with_reducible refine Kept.setCell ?_ (by first | exact Nat.le_refl _ | omega | (simp; done) | (simp; omega)) _) | (with_reducible refine Kept.trans ?_ (by with_reducible assumption))))
        have KX := Lib.hid (fun w' (k : Kept w3 w') => KI.out xn hx2 w' (K3.trans k))
        have KY := Lib.hid (fun w' (k : Kept w3 w') => KI.out yn hy2 w' (K3.trans k))
        have he := HA.out hxy
        have hf : ((xn : Int) == (yn : Int)) = false := beq_false_of_ne (by omega)
        go_region_held3 (fun w' => Kept (w3) w' ∧ (∀ b o, b < (w3).heap.size → w'.cell? ⟨b, o, none⟩ = (w3).cell? ⟨b, o, none⟩)) (first | exact held_of (Kept.drew (Kept.refl _)) | exact held_of (Kept.trans (And.left (by assumption)) (by assumption))) (first | (go_at_call 18; (with_reducible refine (KX.out _ (And.left (by assumption))).mono ?_); rintro e v1 ⟨rfl, hq1⟩) | (go_at_call 18; (with_reducible refine (KY.out _ (And.left (by assumption))).mono ?_); rintro e v1 ⟨rfl, hq1⟩))
        all_goals
          have hk4 : Kept w3 v1 := And.left (by assumption)
          have K7 := K3.trans hk4
          have hbx := hB1_3.trans hk4
          obtain ⟨hcv, hfv⟩ := kept_cells hbx
          have hzv : w.heap.size < v1.heap.size := by have := hbx.size; simp at this; omega
          obtain ⟨b, off, rfl, c0, c1, c2, c3, c4, c5, c6, c7, c8⟩ := (HL.out.kept K7).cells xn hxl
          have hok := HkL.out xn hxl
          have hse : seaB (L[xn]!).s (L[xn]!).a (L[xn]!).b (L[xn]!).k (L[xn]!).m (L[xn]!).d (L[xn]!).o (L[xn]!).wd (L[xn]!).c = true := HSe.out xn hxl
          generalize L[xn]! = r at *
          obtain ⟨s, xa, xb, xk, xm, xd, xo, xw, xc⟩ := r
          dsimp only at c0 c1 c2 c3 c4 c5 c6 c7 c8 hse
          have KS := Lib.hid (fun w => Season_any s xa xb xk xm xd xo xw xc w hok.2)
          rw [hse] at KS
          clear hse hok HA
          go_wp2_with fail
          go_at_call 10
          (with_reducible refine (KS.out _).mono ?_)
          rintro e w9 ⟨rfl, hk9⟩
          go_wp2
          go_ret
          exact ⟨rfl, K7.trans hk9⟩
      · go_enter Try.func4, Try.ntmps4
        go_wp2_with fail
        (go_at_call 7; refine (Cat_awake _).mono ?_; rintro e w1 ⟨rfl, hk1⟩)
        have hB1_1 := hk1
        obtain ⟨hc1_1, hf1_1⟩ := kept_cells hB1_1
        have hz1_0_1 : w.heap.size < w1.heap.size := by have := hB1_1.size; simp at this; omega
        go_wp2_with fail
        (go_at_call 17; refine (KF.out _).mono ?_; rintro e w2 ⟨rfl, hk2⟩)
        have hB1_2 := Kept.trans hB1_1 hk2
        obtain ⟨hc1_2, hf1_2⟩ := kept_cells hB1_2
        have hz1_0_2 : w.heap.size < w2.heap.size := by have := hB1_2.size; simp at this; omega
        go_wp2_with fail
        (go_at_call 14; refine (KC.out _ (by repeat (first | with_reducible exact Kept.refl _ | with_reducible assumption | with_reducible refine Kept.drew ?_ | with_reducible refine Kept.drewN ?_ _ | with_reducible refine Kept.alloc ?_ _ | (with_reducible refine Kept.setCell ?_ (by first | exact Nat.le_refl _ | omega | (simp; done) | (simp; omega)) _) | (with_reducible refine Kept.trans ?_ (by with_reducible assumption))))).mono ?_; rintro e w3 ⟨rfl, hk3⟩)
        have hB1_3 := Kept.trans hB1_2 hk3
        obtain ⟨hc1_3, hf1_3⟩ := kept_cells hB1_3
        have hz1_0_3 : w.heap.size < w3.heap.size := by have := hB1_3.size; simp at this; omega
        go_wp2_with fail
        have K3 : Kept w w3 := (by repeat (first | with_reducible exact Kept.refl _ | with_reducible assumption | with_reducible refine Kept.drew ?_ | with_reducible refine Kept.drewN ?_ _ | with_reducible refine Kept.alloc ?_ _ | (with_reducible refine Kept.setCell ?_ (by first | exact Nat.le_refl _ | omega | (simp; done) | (simp; omega)) _) | (with_reducible refine Kept.trans ?_ (by with_reducible assumption))))
        have KX := Lib.hid (fun w' (k : Kept w3 w') => KI.out xn hx2 w' (K3.trans k))
        have KY := Lib.hid (fun w' (k : Kept w3 w') => KI.out yn hy2 w' (K3.trans k))
        have he := HA.out hxy
        have hf : ((xn : Int) == (yn : Int)) = false := beq_false_of_ne (by omega)
        go_region_held3 (fun w' => Kept (w3) w' ∧ (∀ b o, b < (w3).heap.size → w'.cell? ⟨b, o, none⟩ = (w3).cell? ⟨b, o, none⟩)) (first | exact held_of (Kept.drew (Kept.refl _)) | exact held_of (Kept.trans (And.left (by assumption)) (by assumption))) (first | (go_at_call 18; (with_reducible refine (KX.out _ (And.left (by assumption))).mono ?_); rintro e v1 ⟨rfl, hq1⟩) | (go_at_call 18; (with_reducible refine (KY.out _ (And.left (by assumption))).mono ?_); rintro e v1 ⟨rfl, hq1⟩))
        all_goals
          have hk4 : Kept w3 v1 := And.left (by assumption)
          have K7 := K3.trans hk4
          have hbx := hB1_3.trans hk4
          obtain ⟨hcv, hfv⟩ := kept_cells hbx
          have hzv : w.heap.size < v1.heap.size := by have := hbx.size; simp at this; omega
          obtain ⟨p, hp⟩ : ∃ p, xn = L.length + p := ⟨xn - L.length, by omega⟩
          have hpm : p < M.length := by omega
          obtain ⟨b, off, rfl, c0, c1, c2, c3, c4, c5, c6, c7, c8⟩ := (HM.out.kept K7).cells p hpm
          have hok := HkM.out p hpm
          have hse : feaB (M[p]!).s (M[p]!).a (M[p]!).b (M[p]!).k (M[p]!).m (M[p]!).d (M[p]!).o (M[p]!).wd (M[p]!).c = true := HFe.out p hpm
          generalize M[p]! = r at *
          obtain ⟨s, xa, xb, xk, xm, xd, xo, xw, xc⟩ := r
          dsimp only at c0 c1 c2 c3 c4 c5 c6 c7 c8 hse
          have KS := Lib.hid (fun w => Feast_any s xa xb xk xm xd xo xw xc w hok.2)
          rw [hse] at KS
          clear hse hok HA
          subst hp
          go_wp2_with fail
          go_at_call 12
          (with_reducible refine (KS.out _).mono ?_)
          rintro e w9 ⟨rfl, hk9⟩
          go_wp2
          go_ret
          exact ⟨rfl, K7.trans hk9⟩
theorem CatalogueCheck_walk (f : Int) (o o' : Option Addr) (q q' : Nat) (L M : List Rec) (i k : Int) (w : World) (hL : IsRecs w o L) (hM : IsRecs w o' M) (okL : ∀ r ∈ L, r.ok) (okM : ∀ r ∈ M, r.ok) (_lL : L.length ≤ maxLen) (_lM : M.length ≤ maxLen) (_hf : -9223372036854775808 ≤ f ∧ f ≤ 9223372036854775807)
    (bi : 0 ≤ i ∧ i ≤ 255) (bk : 0 ≤ k ∧ k ≤ 255) :
    Calls Try.prog 4 #[.agg #[.int .i64 f, .slice o L.length q, .slice o' M.length q'], .int .u8 i, .int .u8 k] w fun e w' => e = .returned (.bool true) ∧ Kept w w' := by
  have KF := Lib.hid (fun w => CFew_any f o o' q q' L M w)
  by_cases h8 : L.length ≤ 8 ∧ M.length ≤ 30
  · obtain ⟨h8, h30⟩ := h8
    by_cases hn : 1 ≤ L.length + M.length
    · have x1 := Int.emod_nonneg i (show (L.length : Int) + (M.length : Int) ≠ 0 by omega)
      have x2 := Int.emod_lt_of_pos i (show 0 < (L.length : Int) + (M.length : Int) by omega)
      have y1 := Int.emod_nonneg k (show (L.length : Int) + (M.length : Int) ≠ 0 by omega)
      have y2 := Int.emod_lt_of_pos k (show 0 < (L.length : Int) + (M.length : Int) by omega)
      exact Check_core f o o' q q' L M i k (i % ((L.length : Int) + (M.length : Int))).toNat (k % ((L.length : Int) + (M.length : Int))).toNat w hL hM okL okM bi bk h8 h30 hn (by omega) (by omega) (by omega) (by omega)
    · have e1 : L.length = 0 := by omega
      have e2 : M.length = 0 := by omega
      have hc : catB f L M = false := by unfold catB; rw [decide_eq_false_iff_not]; intro g; have := g.2.1.1; omega
      have KC := Lib.hid (fun w' (k : Kept w w') => CCheck_any f o o' q q' L M w' (hL.kept k) (hM.kept k) okL okM)
      rw [hc, chV_f] at KC
      rw [decide_eq_true ⟨h8, h30⟩] at KF
      rw [e1, e2] at KC KF ⊢
      clear hc e1 e2 hL hM okL okM
      go_enter Try.func4, Try.ntmps4
      go_wp2_with fail
      (go_at_call 7; refine (Cat_awake _).mono ?_; rintro e w1 ⟨rfl, hk1⟩)
      have hB1_1 := hk1
      obtain ⟨hc1_1, hf1_1⟩ := kept_cells hB1_1
      have hz1_0_1 : w.heap.size < w1.heap.size := by have := hB1_1.size; simp at this; omega
      go_wp2_with fail
      (go_at_call 17; refine (KF.out _).mono ?_; rintro e w2 ⟨rfl, hk2⟩)
      have hB1_2 := Kept.trans hB1_1 hk2
      obtain ⟨hc1_2, hf1_2⟩ := kept_cells hB1_2
      have hz1_0_2 : w.heap.size < w2.heap.size := by have := hB1_2.size; simp at this; omega
      go_wp2_with fail
      (go_at_call 14; refine (KC.out _ (by repeat (first | with_reducible exact Kept.refl _ | with_reducible assumption | with_reducible refine Kept.drew ?_ | with_reducible refine Kept.drewN ?_ _ | with_reducible refine Kept.alloc ?_ _ | (with_reducible refine Kept.setCell ?_ (by first | exact Nat.le_refl _ | omega | (simp; done) | (simp; omega)) _) | (with_reducible refine Kept.trans ?_ (by with_reducible assumption))))).mono ?_; rintro e w3 ⟨rfl, hk3⟩)
      have hB1_3 := Kept.trans hB1_2 hk3
      obtain ⟨hc1_3, hf1_3⟩ := kept_cells hB1_3
      have hz1_0_3 : w.heap.size < w3.heap.size := by have := hB1_3.size; simp at this; omega
      go_wp2
      go_ret
      exact ⟨rfl, (by repeat (first | with_reducible exact Kept.refl _ | with_reducible assumption | with_reducible refine Kept.drew ?_ | with_reducible refine Kept.drewN ?_ _ | with_reducible refine Kept.alloc ?_ _ | (with_reducible refine Kept.setCell ?_ (by first | exact Nat.le_refl _ | omega | (simp; done) | (simp; omega)) _) | (with_reducible refine Kept.trans ?_ (by with_reducible assumption))))⟩
  · rw [decide_eq_false h8] at KF
    clear hL hM okL okM h8
    go_enter Try.func4, Try.ntmps4
    go_wp2_with fail
    (go_at_call 7; refine (Cat_awake _).mono ?_; rintro e w1 ⟨rfl, hk1⟩)
    have hB1_1 := hk1
    obtain ⟨hc1_1, hf1_1⟩ := kept_cells hB1_1
    have hz1_0_1 : w.heap.size < w1.heap.size := by have := hB1_1.size; simp at this; omega
    go_wp2_with fail
    (go_at_call 17; refine (KF.out _).mono ?_; rintro e w2 ⟨rfl, hk2⟩)
    have hB1_2 := Kept.trans hB1_1 hk2
    obtain ⟨hc1_2, hf1_2⟩ := kept_cells hB1_2
    have hz1_0_2 : w.heap.size < w2.heap.size := by have := hB1_2.size; simp at this; omega
    go_wp2_with fail
    (go_at_call 7; refine (Cat_awake _).mono ?_; rintro e w3 ⟨rfl, hk3⟩)
    have hB1_3 := Kept.trans hB1_2 hk3
    obtain ⟨hc1_3, hf1_3⟩ := kept_cells hB1_3
    have hz1_0_3 : w.heap.size < w3.heap.size := by have := hB1_3.size; simp at this; omega
    go_wp2
    go_ret
    exact ⟨rfl, (by repeat (first | with_reducible exact Kept.refl _ | with_reducible assumption | with_reducible refine Kept.drew ?_ | with_reducible refine Kept.drewN ?_ _ | with_reducible refine Kept.alloc ?_ _ | (with_reducible refine Kept.setCell ?_ (by first | exact Nat.le_refl _ | omega | (simp; done) | (simp; omega)) _) | (with_reducible refine Kept.trans ?_ (by with_reducible assumption))))⟩

set_option maxRecDepth 100000 in
theorem CatalogueCheck_lifted (os : Os) (started : os.Started) (H : Type) (enc : TypeId × Value → H) :
    ReturnsInHanded {} Try.checked os 4 .any (Rows.catalogueCheckSpec.pre6 enc Try.prog Try.f4 Rows.catalogueCheckRow.domain false) (Rows.catalogueCheckSpec.post enc Try.prog Try.f4 false true false false) := by
  refine returnsInHanded_of_change (C := Try.checked) own_knob started (by kernel_rfl) Try.func4
    (ChangeSpec.witness6 (enc := enc) (C := Try.checked) false ⟨#[], #[.agg #[.int .i64 0, .slice none 0 0, .slice none 0 0], .int .u8 0, .int .u8 0], []⟩ 8 (by kernel_rfl) (by kernel_rfl) (by kernel_rfl) (by kernel_rfl)) ?_
  intro W base args ds gs before hval0 hW hcnd _
  have hval : ∀ (j : Nat) t v, Try.f4.params[j]? = some t → args[j]? = some v → Value.okWide Try.prog W .any base t v := hval0
  clear hval0
  have hW' := hW
  obtain ⟨p, q, hA0, hV, rfl, hfz, hnd⟩ := hW
  have hA : DataW.TrodAll enc Try.prog W 0 (fun _ => true) true Try.f4.params.toList args.toList ds p := hA0
  rw [Try.params4] at hA hval
  have hAk : DataW.TrodAll enc Try.prog W 0 (fun _ => true) true [25, 5, 5] args.toList ds p := hA
  obtain ⟨v0, vs0, d0, ds0, p0, q_0, hargs, rfl, rfl, h0, r_0⟩ := trodAll_cons hA
  obtain ⟨v1, vs1, d1, ds1, p1, q_1, rfl, rfl, rfl, h1, r_1⟩ := trodAll_cons r_0
  obtain ⟨v2, vs2, d2, ds2, p2, q_2, rfl, rfl, rfl, h2, r_2⟩ := trodAll_cons r_1
  obtain ⟨rfl, rfl, rfl⟩ := trodAll_nil r_2
  obtain rfl : args = #[v0, v1, v2] := by cases args; simp_all
  obtain ⟨rfl, rfl⟩ := trodVars_none hV
  obtain ⟨f0, o0, oo0, q0, qq0, L0, M0, rfl, hL0, hM0, kL0, kM0, lL0, lM0, hf0⟩ := open_cat (hval 0 25 v0 rfl rfl) h0
  obtain ⟨a1, rfl, _, _, w1⟩ := open_int Try.underlying5 (hval 1 5 v1 rfl rfl) h1
  obtain ⟨a2, rfl, _, _, w2⟩ := open_int Try.underlying5 (hval 2 5 v2 rfl rfl) h2
  clear hA0
  have hlt := fun x hx => hW'.lt x hx
  have hrd : ∀ t ∈ [25, 5, 5], Try.prog.readableRec t = true ∧ t < Try.prog.types.size := by
    have hall : ([25, 5, 5].all fun u => Try.prog.readableRec u && decide (u < Try.prog.types.size)) = true := by kernel_rfl
    intro t ht
    have := List.all_eq_true.1 hall t ht
    simpa using this
  refine (CatalogueCheck_walk f0 o0 oo0 q0 qq0 L0 M0 a1 a2 W hL0 hM0 kL0 kM0 lL0 lM0 hf0 (wf_bounds8 w1) (wf_bounds8 w2)).mono fun e W' ⟨he, hg⟩ => ?_
  subst he
  exact ⟨_, rfl, post_of_kept (pv := []) hW' (fun _ _ _ => (trodAll_cons_mk (shut_bool Try.underlying4 _) trodAll_mk0))
    (fun sp hsp => all_kept (by kernel_rfl) hrd hAk hg (fun x hx => hlt x (List.mem_append_left _ hx)) sp (fun x hx => hsp x (List.mem_append_left _ hx))) (fun _ _ => rfl) rfl
    hg (ok_one (by kernel_rfl) rfl (okWide_bool_mk Try.underlying4 _))⟩
theorem CatalogueCheck_proved : Rows.CatalogueCheckSaid :=
  OpenClaim.holds_of_wide 4 Try.f4 rfl rfl rfl rfl rfl rfl rfl ⟨rfl, rfl, rfl, rfl, rfl⟩ rfl rfl rfl rfl rfl (by kernel_rfl) Try.func4 (by kernel_rfl)
    (of_decide_eq_true (by kernel_rfl)) (by unfold Func.isWrapper; first | (rw [if_pos (by decide +kernel)]; kernel_rfl) | (rw [if_neg (by decide +kernel)]; exact ⟨rfl, rfl⟩))
    (fun os started H enc _ => CatalogueCheck_lifted os started H enc)
#print axioms CatalogueCheck_proved
end Go.Proofs.Ythhaicledbcnmaa

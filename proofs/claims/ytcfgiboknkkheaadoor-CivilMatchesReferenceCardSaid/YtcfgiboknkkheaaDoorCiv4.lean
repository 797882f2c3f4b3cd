/- Contracts: package civil and its reference: FromYear. -/
import Derived.Test.YtcfgiboknkkheaaDoorCiv3
import Derived.Test.YtcfgiboknkkheaaDoorDate
import Derived.Outline
set_option linter.unusedSimpArgs false
set_option linter.unusedVariables false
set_option linter.unusedSectionVars false
namespace Go.Proofs.YtcfgiboknkkheaaDoor
open Go.ChangeShapes Go.WideShapes Go.ChangeAt Go.RowKit
set_option maxHeartbeats 800000

theorem FromYear_all (c y n x1 x2 x3 e : Int) (w : World) (hT : Tab w) (hf : FyRel c y n x1 x2 x3 e) (hn : -9223372036854775808 ≤ n ∧ n ≤ 9223372036854775807) :
    Calls Tryd.prog 15 #[.int .i64 c, .int .i64 y, .int .i64 n] w fun e' w' => e' = .returned (.tuple #[.agg #[.int .i64 x1, .int .i64 x2, .int .i64 x3], .int .i64 e]) ∧ Kept w w' := by
  have KT := Lib.hid (fun w' (k : Kept w w') => hT.kept k)
  have KY := Lib.hid (fun w hT => YearLength_all c y w hT)
  clear hT
  obtain ⟨n1, n2⟩ := hn
  rcases hf with ⟨hz, rfl, rfl, rfl, rfl⟩ | ⟨hz, hb, rfl, rfl, rfl, rfl⟩ | ⟨hz, hb1, hb2, rfl, ho, hc, rfl⟩
  · have hp : 1 ≤ ylE c y := by rcases yl_cases c y with ⟨_, _, a⟩ | ⟨_, _, _, a⟩ | ⟨_, _, _, _, a⟩ <;> omega
    clear hz
    go_enter Tryd.func15, Tryd.ntmps15
    go_wp2_with fail
    (go_at_call 16; refine (KY.out _ (KT.out _ (by repeat (first | with_reducible exact Kept.refl _ | with_reducible assumption | with_reducible refine Kept.drew ?_ | with_reducible refine Kept.drewN ?_ _ | with_reducible refine Kept.alloc ?_ _ | (with_reducible refine Kept.setCell ?_ (by first | exact Nat.le_refl _ | omega | (simp; done) | (simp; omega)) _) | (with_reducible refine Kept.trans ?_ (by with_reducible assumption)))))).mono ?_; rintro e w1 ⟨rfl, hk1⟩)
    have hB1_1 := hk1
    obtain ⟨hc1_1, hf1_1⟩ := kept_cells hB1_1
    have hz1_0_1 : w.heap.size < w1.heap.size := by have := hB1_1.size; simp at this; omega
    go_wp2
    exact bodyPost_ret (v := .tuple #[.agg #[.int .i64 0, .int .i64 0, .int .i64 0], .int .i64 (ylE c y)]) (by simp [results, Tryd.results15, go_sem, *]) rfl ⟨rfl, (by repeat (first | with_reducible exact Kept.refl _ | with_reducible assumption | with_reducible refine Kept.drew ?_ | with_reducible refine Kept.drewN ?_ _ | with_reducible refine Kept.alloc ?_ _ | (with_reducible refine Kept.setCell ?_ (by first | exact Nat.le_refl _ | omega | (simp; done) | (simp; omega)) _) | (with_reducible refine Kept.trans ?_ (by with_reducible assumption))))⟩
  · rw [hz] at KY
    clear hz
    rcases hb with hb | hb
    · go_enter Tryd.func15, Tryd.ntmps15
      go_wp2_with fail
      (go_at_call 16; refine (KY.out _ (KT.out _ (by repeat (first | with_reducible exact Kept.refl _ | with_reducible assumption | with_reducible refine Kept.drew ?_ | with_reducible refine Kept.drewN ?_ _ | with_reducible refine Kept.alloc ?_ _ | (with_reducible refine Kept.setCell ?_ (by first | exact Nat.le_refl _ | omega | (simp; done) | (simp; omega)) _) | (with_reducible refine Kept.trans ?_ (by with_reducible assumption)))))).mono ?_; rintro e w1 ⟨rfl, hk1⟩)
      have hB1_1 := hk1
      obtain ⟨hc1_1, hf1_1⟩ := kept_cells hB1_1
      have hz1_0_1 : w.heap.size < w1.heap.size := by have := hB1_1.size; simp at this; omega
      go_wp2
      exact bodyPost_ret (v := .tuple #[.agg #[.int .i64 0, .int .i64 0, .int .i64 0], .int .i64 2]) (by simp [results, Tryd.results15, go_sem, *]) rfl ⟨rfl, (by repeat (first | with_reducible exact Kept.refl _ | with_reducible assumption | with_reducible refine Kept.drew ?_ | with_reducible refine Kept.drewN ?_ _ | with_reducible refine Kept.alloc ?_ _ | (with_reducible refine Kept.setCell ?_ (by first | exact Nat.le_refl _ | omega | (simp; done) | (simp; omega)) _) | (with_reducible refine Kept.trans ?_ (by with_reducible assumption))))⟩
    · have hb0 : 1 ≤ n := by rcases yl_cases c y with ⟨_, a, _⟩ | ⟨_, _, a, _⟩ | ⟨_, _, _, a, _⟩ <;> (try split at a) <;> omega
      go_enter Tryd.func15, Tryd.ntmps15
      go_wp2_with fail
      (go_at_call 16; refine (KY.out _ (KT.out _ (by repeat (first | with_reducible exact Kept.refl _ | with_reducible assumption | with_reducible refine Kept.drew ?_ | with_reducible refine Kept.drewN ?_ _ | with_reducible refine Kept.alloc ?_ _ | (with_reducible refine Kept.setCell ?_ (by first | exact Nat.le_refl _ | omega | (simp; done) | (simp; omega)) _) | (with_reducible refine Kept.trans ?_ (by with_reducible assumption)))))).mono ?_; rintro e w1 ⟨rfl, hk1⟩)
      have hB1_1 := hk1
      obtain ⟨hc1_1, hf1_1⟩ := kept_cells hB1_1
      have hz1_0_1 : w.heap.size < w1.heap.size := by have := hB1_1.size; simp at this; omega
      go_wp2
      exact bodyPost_ret (v := .tuple #[.agg #[.int .i64 0, .int .i64 0, .int .i64 0], .int .i64 2]) (by simp [results, Tryd.results15, go_sem, *]) rfl ⟨rfl, (by repeat (first | with_reducible exact Kept.refl _ | with_reducible assumption | with_reducible refine Kept.drew ?_ | with_reducible refine Kept.drewN ?_ _ | with_reducible refine Kept.alloc ?_ _ | (with_reducible refine Kept.setCell ?_ (by first | exact Nat.le_refl _ | omega | (simp; done) | (simp; omega)) _) | (with_reducible refine Kept.trans ?_ (by with_reducible assumption))))⟩
  · rw [hz] at KY
    have hcal : IsCal c := by
      rcases yl_cases c x1 with ⟨_, _, a⟩ | ⟨_, _, _, a⟩ | ⟨a, _⟩
      · omega
      · omega
      · exact a
    have hfd : FdRel c (fst c x1 + n - 1) x1 x2 x3 0 := .inr ⟨ho, by unfold num; omega, rfl⟩
    have HF := Lib.hid hfd
    have h1 := ho.1
    have h2 := ho.2.1
    obtain ⟨f1, f2⟩ := fst_bounds c x1 h1 (by omega)
    have hyl : ylN c x1 ≤ 366 := by rcases yl_cases c x1 with ⟨_, a, _⟩ | ⟨_, _, a, _⟩ | ⟨_, _, _, a, _⟩ <;> (try split at a) <;> omega
    clear hz hfd ho hc
    rcases hcal with rfl | rfl
    · go_enter Tryd.func15, Tryd.ntmps15
      go_wp2_with fail
      (go_at_call 16; refine (KY.out _ (KT.out _ (by repeat (first | with_reducible exact Kept.refl _ | with_reducible assumption | with_reducible refine Kept.drew ?_ | with_reducible refine Kept.drewN ?_ _ | with_reducible refine Kept.alloc ?_ _ | (with_reducible refine Kept.setCell ?_ (by first | exact Nat.le_refl _ | omega | (simp; done) | (simp; omega)) _) | (with_reducible refine Kept.trans ?_ (by with_reducible assumption)))))).mono ?_; rintro e w1 ⟨rfl, hk1⟩)
      have hB1_1 := hk1
      obtain ⟨hc1_1, hf1_1⟩ := kept_cells hB1_1
      have hz1_0_1 : w.heap.size < w1.heap.size := by have := hB1_1.size; simp at this; omega
      go_wp2_with fail
      (go_at_call 47; refine (of_1 _).mono ?_; rintro e w2 ⟨rfl, hk2⟩)
      have hB1_2 := Kept.trans hB1_1 hk2
      obtain ⟨hc1_2, hf1_2⟩ := kept_cells hB1_2
      have hz1_0_2 : w.heap.size < w2.heap.size := by have := hB1_2.size; simp at this; omega
      go_wp2_with fail
      (go_at_call 65; refine (JFirst_ok _ _ h1 h2).mono ?_; rintro e w1 ⟨rfl, rfl⟩)
      go_wp2_with fail
      (go_at_call 64; refine (JFromDay_all _ _ _ _ _ _ (KT.out _ (by repeat (first | with_reducible exact Kept.refl _ | with_reducible assumption | with_reducible refine Kept.drew ?_ | with_reducible refine Kept.drewN ?_ _ | with_reducible refine Kept.alloc ?_ _ | (with_reducible refine Kept.setCell ?_ (by first | exact Nat.le_refl _ | omega | (simp; done) | (simp; omega)) _) | (with_reducible refine Kept.trans ?_ (by with_reducible assumption))))) HF.out).mono ?_; rintro e w3 ⟨rfl, hk3⟩)
      have hB1_3 := Kept.trans (Kept.drew (Kept.alloc hB1_2 _)) hk3
      obtain ⟨hc1_3, hf1_3⟩ := kept_cells hB1_3
      have hz1_0_3 : w.heap.size < w3.heap.size := by have := hB1_3.size; simp at this; omega
      go_wp2
      exact bodyPost_ret (v := .tuple #[.agg #[.int .i64 x1, .int .i64 x2, .int .i64 x3], .int .i64 0]) (by simp [results, Tryd.results15, go_sem, *]) rfl ⟨rfl, (by repeat (first | with_reducible exact Kept.refl _ | with_reducible assumption | with_reducible refine Kept.drew ?_ | with_reducible refine Kept.drewN ?_ _ | with_reducible refine Kept.alloc ?_ _ | (with_reducible refine Kept.setCell ?_ (by first | exact Nat.le_refl _ | omega | (simp; done) | (simp; omega)) _) | (with_reducible refine Kept.trans ?_ (by with_reducible assumption))))⟩
    · go_enter Tryd.func15, Tryd.ntmps15
      go_wp2_with fail
      (go_at_call 16; refine (KY.out _ (KT.out _ (by repeat (first | with_reducible exact Kept.refl _ | with_reducible assumption | with_reducible refine Kept.drew ?_ | with_reducible refine Kept.drewN ?_ _ | with_reducible refine Kept.alloc ?_ _ | (with_reducible refine Kept.setCell ?_ (by first | exact Nat.le_refl _ | omega | (simp; done) | (simp; omega)) _) | (with_reducible refine Kept.trans ?_ (by with_reducible assumption)))))).mono ?_; rintro e w1 ⟨rfl, hk1⟩)
      have hB1_1 := hk1
      obtain ⟨hc1_1, hf1_1⟩ := kept_cells hB1_1
      have hz1_0_1 : w.heap.size < w1.heap.size := by have := hB1_1.size; simp at this; omega
      go_wp2_with fail
      (go_at_call 47; refine (of_2 _).mono ?_; rintro e w2 ⟨rfl, hk2⟩)
      have hB1_2 := Kept.trans hB1_1 hk2
      obtain ⟨hc1_2, hf1_2⟩ := kept_cells hB1_2
      have hz1_0_2 : w.heap.size < w2.heap.size := by have := hB1_2.size; simp at this; omega
      go_wp2_with fail
      (go_at_call 69; refine (First_ok _ _ h1 h2).mono ?_; rintro e w1 ⟨rfl, rfl⟩)
      go_wp2_with fail
      (go_at_call 68; refine (GFromDay_all _ _ _ _ _ _ HF.out).mono ?_; rintro e w3 ⟨rfl, hk3⟩)
      have hB1_3 := Kept.trans (Kept.alloc hB1_2 _) hk3
      have hB3_3 := hk3
      obtain ⟨hc1_3, hf1_3⟩ := kept_cells hB1_3
      have hz1_0_3 : w.heap.size < w3.heap.size := by have := hB1_3.size; simp at this; omega
      obtain ⟨hc3_3, hf3_3⟩ := kept_cells hB3_3
      have hz3_0_3 : w2.heap.size < w3.heap.size := by have := hB3_3.size; simp at this; omega
      go_wp2
      exact bodyPost_ret (v := .tuple #[.agg #[.int .i64 x1, .int .i64 x2, .int .i64 x3], .int .i64 0]) (by simp [results, Tryd.results15, go_sem, *]) rfl ⟨rfl, (by repeat (first | with_reducible exact Kept.refl _ | with_reducible assumption | with_reducible refine Kept.drew ?_ | with_reducible refine Kept.drewN ?_ _ | with_reducible refine Kept.alloc ?_ _ | (with_reducible refine Kept.setCell ?_ (by first | exact Nat.le_refl _ | omega | (simp; done) | (simp; omega)) _) | (with_reducible refine Kept.trans ?_ (by with_reducible assumption))))⟩

/-- A date in a block of its own. -/
structure DateAt (w : World) (b : Nat) (y m d : Int) : Prop where
  c0 : w.cell? ⟨b, 0, none⟩ = some (.int .i64 y)
  c1 : w.cell? ⟨b, 1, none⟩ = some (.int .i64 m)
  c2 : w.cell? ⟨b, 2, none⟩ = some (.int .i64 d)
  f0 : w.frozen? ⟨b, 0, none⟩ = false
  f1 : w.frozen? ⟨b, 1, none⟩ = false
  f2 : w.frozen? ⟨b, 2, none⟩ = false
theorem DateAt.kept {w w' : World} {b : Nat} {y m d : Int} (h : DateAt w b y m d) (k : Kept w w') : DateAt w' b y m d := by
  have hb := lt_cell h.c0
  exact ⟨(k.cell _ _ hb).trans h.c0, (k.cell _ _ hb).trans h.c1, (k.cell _ _ hb).trans h.c2, (k.frozen _ _ hb).trans h.f0, (k.frozen _ _ hb).trans h.f1, (k.frozen _ _ hb).trans h.f2⟩
theorem DateAt.set {w : World} {b : Nat} {y0 m0 d0 : Int} (h : DateAt w b y0 m0 d0) (y m d : Int) :
    DateAt (((w.setCell ⟨b, 0, none⟩ (.int .i64 y)).setCell ⟨b, 1, none⟩ (.int .i64 m)).setCell ⟨b, 2, none⟩ (.int .i64 d)) b y m d := by
  obtain ⟨c0, c1, c2, f0, f1, f2⟩ := h
  constructor <;> go_simp
theorem DateAt.other {w : World} {b b' : Nat} {y0 m0 d0 y m d : Int} (h : DateAt w b' y0 m0 d0) (hne : b' ≠ b) :
    DateAt (((w.setCell ⟨b, 0, none⟩ (.int .i64 y)).setCell ⟨b, 1, none⟩ (.int .i64 m)).setCell ⟨b, 2, none⟩ (.int .i64 d)) b' y0 m0 d0 := by
  obtain ⟨c0, c1, c2, f0, f1, f2⟩ := h
  constructor <;> simp [World.cell?_setCell_other, World.frozen?_setCell, hne, *]
theorem next_in_year (c y n k a b : Int) (hk : k < n) (hn : n ≤ ylN c y) (ho : OkD c y a b) (hs : cum (lp c y) a + b = k) : (b < mlen (lp c y) a ∧ OkD c y a (b + 1) ∧ cum (lp c y) a + (b + 1) = k + 1) ∨ (mlen (lp c y) a ≤ b ∧ a < 12 ∧ OkD c y (a + 1) 1 ∧ cum (lp c y) (a + 1) + 1 = k + 1) := by
  obtain ⟨h1, h2, h3, h4, h5, h6⟩ := ho
  by_cases g : b < mlen (lp c y) a
  · exact .inl ⟨g, ⟨h1, h2, h3, h4, by omega, by omega⟩, by omega⟩
  · refine .inr ⟨by omega, ?_, ?_⟩
    · by_cases g2 : a < 12
      · exact g2
      · obtain rfl : a = 12 := by omega
        have c12 := cum_succ (lp c y) 12 (by omega) (by omega)
        rw [show (12 : Int) + 1 = 13 from rfl, cum_13] at c12
        have hyl : ylN c y ≤ 365 + if lp c y then 1 else 0 := by
          rcases yl_cases c y with ⟨_, e, _⟩ | ⟨_, _, e, _⟩ | ⟨_, _, _, e, _⟩
          · rw [e]; split <;> omega
          · rw [e]; split <;> omega
          · omega
        omega
    · have g2 : a < 12 := by
        by_cases g2 : a < 12
        · exact g2
        · obtain rfl : a = 12 := by omega
          have c12 := cum_succ (lp c y) 12 (by omega) (by omega)
          rw [show (12 : Int) + 1 = 13 from rfl, cum_13] at c12
          have hyl : ylN c y ≤ 365 + if lp c y then 1 else 0 := by
            rcases yl_cases c y with ⟨_, e, _⟩ | ⟨_, _, e, _⟩ | ⟨_, _, _, e, _⟩
            · rw [e]; split <;> omega
            · rw [e]; split <;> omega
            · omega
          omega
      have cs := cum_succ (lp c y) a h3 h4
      have mb := mlen_bounds (lp c y) (a + 1) (by omega) (by omega)
      exact ⟨⟨h1, h2, by omega, by omega, by omega, by omega⟩, by omega⟩
theorem year_day_inj (c y a b a' b' : Int) (h : OkD c y a b) (h' : OkD c y a' b') (e : cum (lp c y) a + b = cum (lp c y) a' + b') : a = a' ∧ b = b' := by
  have := num_inj c y a b y a' b' h h' (by unfold num; omega)
  exact ⟨this.2.1, this.2.2⟩

theorem refFromYear_all (c y n x1 x2 x3 e : Int) (w : World) (hf : FyRel c y n x1 x2 x3 e) (hn : -9223372036854775808 ≤ n ∧ n ≤ 9223372036854775807) :
    Calls Tryd.prog 44 #[.int .i64 c, .int .i64 y, .int .i64 n] w fun e' w' => e' = .returned (.tuple #[.agg #[.int .i64 x1, .int .i64 x2, .int .i64 x3], .int .i64 e]) ∧ Kept w w' := by
  have KY := Lib.hid (fun w => refYearLength_all c y w)
  obtain ⟨n1, n2⟩ := hn
  rcases hf with ⟨hz, rfl, rfl, rfl, rfl⟩ | ⟨hz, hb, rfl, rfl, rfl, rfl⟩ | ⟨hz, hb1, hb2, rfl, ho, hc, rfl⟩
  · have hp : 1 ≤ ylE c y := by rcases yl_cases c y with ⟨_, _, a⟩ | ⟨_, _, _, a⟩ | ⟨_, _, _, _, a⟩ <;> omega
    clear hz
    go_enter Tryd.func44, Tryd.ntmps44
    go_wp2_with fail
    (go_at_call 45; refine (KY.out _).mono ?_; rintro e w1 ⟨rfl, rfl⟩)
    go_wp2
    exact bodyPost_ret (v := .tuple #[.agg #[.int .i64 0, .int .i64 0, .int .i64 0], .int .i64 (ylE c y)]) (by simp [results, Tryd.results44, go_sem, *]) rfl ⟨rfl, (by repeat (first | with_reducible exact Kept.refl _ | with_reducible assumption | with_reducible refine Kept.drew ?_ | with_reducible refine Kept.drewN ?_ _ | with_reducible refine Kept.alloc ?_ _ | (with_reducible refine Kept.setCell ?_ (by first | exact Nat.le_refl _ | omega | (simp; done) | (simp; omega)) _) | (with_reducible refine Kept.trans ?_ (by with_reducible assumption))))⟩
  · rw [hz] at KY
    clear hz
    rcases hb with hb | hb
    · go_enter Tryd.func44, Tryd.ntmps44
      go_wp2_with fail
      (go_at_call 45; refine (KY.out _).mono ?_; rintro e w1 ⟨rfl, rfl⟩)
      go_wp2
      exact bodyPost_ret (v := .tuple #[.agg #[.int .i64 0, .int .i64 0, .int .i64 0], .int .i64 2]) (by simp [results, Tryd.results44, go_sem, *]) rfl ⟨rfl, (by repeat (first | with_reducible exact Kept.refl _ | with_reducible assumption | with_reducible refine Kept.drew ?_ | with_reducible refine Kept.drewN ?_ _ | with_reducible refine Kept.alloc ?_ _ | (with_reducible refine Kept.setCell ?_ (by first | exact Nat.le_refl _ | omega | (simp; done) | (simp; omega)) _) | (with_reducible refine Kept.trans ?_ (by with_reducible assumption))))⟩
    · have hb0 : 1 ≤ n := by rcases yl_cases c y with ⟨_, a, _⟩ | ⟨_, _, a, _⟩ | ⟨_, _, _, a, _⟩ <;> (try split at a) <;> omega
      go_enter Tryd.func44, Tryd.ntmps44
      go_wp2_with fail
      (go_at_call 45; refine (KY.out _).mono ?_; rintro e w1 ⟨rfl, rfl⟩)
      go_wp2
      exact bodyPost_ret (v := .tuple #[.agg #[.int .i64 0, .int .i64 0, .int .i64 0], .int .i64 2]) (by simp [results, Tryd.results44, go_sem, *]) rfl ⟨rfl, (by repeat (first | with_reducible exact Kept.refl _ | with_reducible assumption | with_reducible refine Kept.drew ?_ | with_reducible refine Kept.drewN ?_ _ | with_reducible refine Kept.alloc ?_ _ | (with_reducible refine Kept.setCell ?_ (by first | exact Nat.le_refl _ | omega | (simp; done) | (simp; omega)) _) | (with_reducible refine Kept.trans ?_ (by with_reducible assumption))))⟩
  · rw [hz] at KY
    have h1 := ho.1
    have h2 := ho.2.1
    have hyl : ylN c x1 ≤ 366 := by rcases yl_cases c x1 with ⟨_, a, _⟩ | ⟨_, _, a, _⟩ | ⟨_, _, _, a, _⟩ <;> (try split at a) <;> omega
    have KX := Lib.hid (fun k a b hk ho' hs => next_in_year c x1 n k a b hk hb2 ho' hs)
    have KI := Lib.hid (fun a b ho' (hs : cum (lp c x1) a + b = n) => year_day_inj c x1 a b x2 x3 ho' ho (hs.trans hc.symm))
    have KS : Hid (OkD c x1 1 1) := ⟨h1, h2, by omega, by omega, by omega, by have := mlen_bounds (lp c x1) 1 (by omega) (by omega); omega⟩
    clear hz ho hc
    go_enter Tryd.func44, Tryd.ntmps44
    go_wp2_with fail
    (go_at_call 45; refine (KY.out _).mono ?_; rintro e w1 ⟨rfl, rfl⟩)
    go_wp2_with fail
    go_loopw [11] (fun i wr => ∃ k a b : Int, 1 ≤ k ∧ k ≤ n ∧ i = .int .i64 k ∧ OkD c x1 a b ∧ cum (lp c x1) a + b = k ∧ Kept w wr ∧ DateAt wr w.heap.size 0 0 0 ∧ DateAt wr (w.heap.size + 1) x1 a b) (fun i _ => (n - intOf i).toNat)
    case atStart =>
      refine ⟨1, 1, 1, by omega, by omega, rfl, KS.out, by rw [cum_1]; rfl, (by repeat (first | with_reducible exact Kept.refl _ | with_reducible assumption | with_reducible refine Kept.drew ?_ | with_reducible refine Kept.drewN ?_ _ | with_reducible refine Kept.alloc ?_ _ | (with_reducible refine Kept.setCell ?_ (by first | exact Nat.le_refl _ | omega | (simp; done) | (simp; omega)) _) | (with_reducible refine Kept.trans ?_ (by with_reducible assumption)))), ⟨?_, ?_, ?_, ?_, ?_, ?_⟩, ⟨?_, ?_, ?_, ?_, ?_, ?_⟩⟩ <;> go_simp
    case round =>
      obtain ⟨k, a, b, hk1, hk2, rfl, ho, hs, hK, hR, hD⟩ := hrel
      have hzR := lt_cell hR.c0
      have hzD := lt_cell hD.c0
      by_cases hlt : k < n
      · rcases KX.out k a b hlt ho hs with ⟨g1, g2, g3⟩ | ⟨g1, g2, g3, g4⟩
        · have HO := Lib.hid ho
          have G2 := Lib.hid g2
          have G3 := Lib.hid g3
          clear g2 g3
          have HR := Lib.hid hR
          have HD := Lib.hid hD
          have HK := Lib.hid hK
          have hb5 := ho.2.2.2.2.1
          have ha3 := ho.2.2.1
          have hml := (mlen_bounds (lp c x1) a ho.2.2.1 ho.2.2.2.1).2
          obtain ⟨c0, c1, c2, f0, f1, f2⟩ := hD
          clear ho hs hR hK
          go_wp2_with fail
          refine wp_region_still_tail 4 (by kernel_rfl) (by kernel_rfl) ?_
          change wpStill _ _ (World.drew _) (fun a' => wpList _ _ _ _ a' (World.drew _)) _ _
          simp only [List.take_succ_cons, List.take_zero, List.drop_succ_cons, List.drop_zero]
          repeat (first | still_step | still_call (same_of (refLeap_any c x1 _ (by omega) (by omega))))
          refine wpStill_nil ?_
          go_wp2_with fail
          (go_at_call 20; refine (Next_day (lp c x1) x1 a b _ h2 hb5 g1 hml).mono ?_; rintro e w1 ⟨rfl, hk1'⟩)
          have hkN := Kept.trans (Kept.drew (Kept.refl wr)) hk1'
          obtain ⟨c0', c1', c2', f0', f1', f2'⟩ := HD.out.kept hkN
          have HD1 := Lib.hid (HD.out.kept hkN)
          clear c0 c1 c2 f0 f1 f2
          have HR1 := Lib.hid (HR.out.kept hkN)
          have HK1 := Lib.hid (Kept.trans HK.out hkN)
          clear hk1' hkN
          go_wp2_with fail
          go_roundw
          case rel => exact ⟨k + 1, _, _, by omega, by omega, rfl, G2.out, G3.out, Kept.setCell (Kept.setCell (Kept.setCell HK1.out (by simp) _) (by simp) _) (by simp) _, HR1.out.other (by omega), HD1.out.set _ _ _⟩
          case measure => simp [intOf]; omega
        · have HO := Lib.hid ho
          have G2 := Lib.hid g3
          have G3 := Lib.hid g4
          clear g3 g4
          have HR := Lib.hid hR
          have HD := Lib.hid hD
          have HK := Lib.hid hK
          have hb5 := ho.2.2.2.2.1
          have ha3 := ho.2.2.1
          have hml := (mlen_bounds (lp c x1) a ho.2.2.1 ho.2.2.2.1).2
          obtain ⟨c0, c1, c2, f0, f1, f2⟩ := hD
          clear ho hs hR hK
          go_wp2_with fail
          refine wp_region_still_tail 4 (by kernel_rfl) (by kernel_rfl) ?_
          change wpStill _ _ (World.drew _) (fun a' => wpList _ _ _ _ a' (World.drew _)) _ _
          simp only [List.take_succ_cons, List.take_zero, List.drop_succ_cons, List.drop_zero]
          repeat (first | still_step | still_call (same_of (refLeap_any c x1 _ (by omega) (by omega))))
          refine wpStill_nil ?_
          go_wp2_with fail
          (go_at_call 20; refine (Next_month (lp c x1) x1 a b _ h2 ha3 g2 g1).mono ?_; rintro e w1 ⟨rfl, hk1'⟩)
          have hkN := Kept.trans (Kept.drew (Kept.refl wr)) hk1'
          obtain ⟨c0', c1', c2', f0', f1', f2'⟩ := HD.out.kept hkN
          have HD1 := Lib.hid (HD.out.kept hkN)
          clear c0 c1 c2 f0 f1 f2
          have HR1 := Lib.hid (HR.out.kept hkN)
          have HK1 := Lib.hid (Kept.trans HK.out hkN)
          clear hk1' hkN
          go_wp2_with fail
          go_roundw
          case rel => exact ⟨k + 1, _, _, by omega, by omega, rfl, G2.out, G3.out, Kept.setCell (Kept.setCell (Kept.setCell HK1.out (by simp) _) (by simp) _) (by simp) _, HR1.out.other (by omega), HD1.out.set _ _ _⟩
          case measure => simp [intOf]; omega
      · obtain rfl : k = n := by omega
        obtain ⟨rfl, rfl⟩ := KI.out a b ho hs
        have HK := Lib.hid hK
        obtain ⟨c0, c1, c2, f0, f1, f2⟩ := hD
        obtain ⟨r0, r1, r2, q0, q1, q2⟩ := hR
        clear ho hs hK KI KX
        go_wp2_with fail
        exact bodyPost_ret (v := .tuple #[.agg #[.int .i64 x1, .int .i64 a, .int .i64 b], .int .i64 0]) (by simp [results, Tryd.results44, go_sem, *]) rfl ⟨rfl, Kept.setCell (Kept.setCell (Kept.setCell HK.out (by simp) _) (by simp) _) (by simp) _⟩
end Go.Proofs.YtcfgiboknkkheaaDoor

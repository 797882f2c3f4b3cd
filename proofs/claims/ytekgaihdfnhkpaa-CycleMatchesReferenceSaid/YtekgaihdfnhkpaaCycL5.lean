/- CycleMatchesReference. -/
import Derived.Test.YtekgaihdfnhkpaaCycM
import Derived.Test.YtekgaihdfnhkpaaRows
set_option linter.unusedSimpArgs false
set_option linter.unusedVariables false
set_option linter.unusedSectionVars false
namespace Go.Proofs.Ytekgaihdfnhkpaa
open Go.ChangeShapes Go.WideShapes Go.ChangeAt Go.RowKit
set_option maxHeartbeats 1000000
set_option maxRecDepth 20000

theorem Numbers_same (L : List Int) (o o' : Option Addr) (c c' : Nat) (w : World) (hA : IsInts w o L) (hB : IsInts w o' L) (hs : L.length ≤ 1000) :
    Calls Try.prog 20 #[.slice o L.length c, .slice o' L.length c'] w fun e w' => e = .returned (.bool true) ∧ Kept w w' := by
  have h := Numbers_of o o' c c' L L w hA hB hs hs
  rwa [decide_eq_true rfl] at h
set_option maxHeartbeats 4000000 in
theorem CycleMatchesReference_good (c f l m d : Int) (hr : rgE c f l = 0) (h4 : l - f ≤ 400) (w : World) :
    Calls Try.prog 6 #[.int .i64 c, .int .i64 f, .int .i64 l, .int .i64 m, .int .i64 d] w fun e w' => e = .returned (.bool true) ∧ Kept w w' := by
  obtain ⟨hf, hl, hfl, _⟩ := rg_zero c f l hr
  have hb1 : 1 ≤ f ∧ f ≤ 1000000000 := (fit_cal c f hf).2
  have hb2 : 1 ≤ l ∧ l ≤ 1000000000 := (fit_cal c l hl).2
  have KI1 := Lib.hid (fun w => In_yes f w hb1.1 hb1.2)
  have KI2 := Lib.hid (fun w => In_yes l w hb2.1 hb2.2)
  have KY := Lib.hid (fun w => Years_ok c f l m d w hr)
  have KZ := Lib.hid (fun w => rYears_ok c f l m d w hr)
  have KH := Lib.hid (fun w => Histogram_ok c f l w hr)
  have KE := Lib.hid (fun w => Earliest_ok c f l w hr)
  have KF := Lib.hid (fun w => rFails_any c f l w (by omega) (by omega))
  rw [hr] at KF
  generalize hn : (l - f).toNat + 1 = n at *
  have hl2 : l = f + n - 1 := by omega
  have hn1 : (n : Int) ≤ 401 := by omega
  have hn0 : 0 < n := by omega
  have hfk : ∀ y, f ≤ y → y ≤ l → Fit c y := by intro y g1 g2; unfold Fit at *; omega
  subst hl2
  have KX := Lib.hid (fun y w (g1 : f ≤ y) (g2 : y ≤ f + n - 1) => rIndex_ok c y w (hfk y g1 g2))
  have HB := Lib.hid (fun k => bb_step c f k)
  have HR := Lib.hid (fun k => bb_range c f k)
  have HX := Lib.hid (fun y => easI_idx c y)
  have HS := Lib.hid (fun k => hst_step c f k)
  have HSR := Lib.hid (fun k j => hst_range c f k j)
  have HLen := yrs_len c f m d n
  have hyN : (bst c f n).1 = bb c f n := (if_neg (show ¬ n = 0 by omega)).symm
  rw [hyN] at KE
  have hEq := eqH (hst c f n) (fun j => by have := hst_range c f n j; omega)
  have HEQ := Lib.hid hEq
  have h0 : hst c f 0 = fun _ => 0 := rfl
  have HN := Lib.hid (fun L o o' q q' w a b cc => Numbers_same L o o' q q' w a b cc)
  clear hfk hr hf hl hn hyN hEq
  generalize hL : yrs c f m d n = L at *
  clear hL
  go_enter Try.func6, Try.ntmps6
  go_wp2_with fail
  (go_at_call 8; (with_reducible refine (Cyc_awake _).mono ?_); rintro e w1 ⟨rfl, hk1⟩)
  go_wp2_with fail
  (go_at_call 12; (with_reducible refine (KI1.out _).mono ?_); rintro e w1 ⟨rfl, rfl⟩)
  go_wp2_with fail
  (go_at_call 12; (with_reducible refine (KI2.out _).mono ?_); rintro e w1 ⟨rfl, rfl⟩)
  go_wp2_with fail
  go_at_call 14
  refine (KY.out _).mono ?_
  rintro e w2 ⟨o, q, rfl, hI, hk2⟩
  have HI := Lib.hid hI
  have K2 := hk1.trans hk2
  clear hI hk1 hk2
  go_wp2_with fail
  go_at_call 19
  refine (KH.out _).mono ?_
  rintro e w3 ⟨rfl, hk3⟩
  have HH := Lib.hid (laid_h w2 w3 (hst c f n) hk3)
  have hs3 := hk3.size
  go_wp2_with (refine wpList_store_row rfl 42 _ _ rfl w3.heap.size _ rfl rfl 42 _ (new42 w3) (rH _) (zH _) (hOne _) ?_)
  obtain ⟨BH, KW3, _⟩ := HH.out
  generalize (w3.alloc (.cells #[.int .i64 0, .int .i64 0, .int .i64 0, .int .i64 0, .int .i64 0, .int .i64 0, .int .i64 0, .int .i64 0, .int .i64 0, .int .i64 0, .int .i64 0, .int .i64 0, .int .i64 0, .int .i64 0, .int .i64 0, .int .i64 0, .int .i64 0, .int .i64 0, .int .i64 0, .int .i64 0, .int .i64 0, .int .i64 0, .int .i64 0, .int .i64 0, .int .i64 0, .int .i64 0, .int .i64 0, .int .i64 0, .int .i64 0, .int .i64 0, .int .i64 0, .int .i64 0, .int .i64 0, .int .i64 0, .int .i64 0] 42)).setRow w3.heap.size (hCells (hst c f n)).toArray = W3 at *
  clear HH hk3
  (go_at_call 17; refine (KE.out _).mono ?_; rintro e w4 ⟨rfl, hk4⟩)
  have K4 := KW3.trans hk4
  have BH4 := BH.kept hk4
  clear BH KW3 hk4
  go_wp2_with fail
  (go_at_call 16; (with_reducible refine (KF.out _).mono ?_); rintro e w1 ⟨rfl, rfl⟩)
  go_wp2_with fail
  have BC := HBlk.new w4
  rw [zero_cells] at BC
  have BH5 := BH4.alloc (.cells #[.int .i64 0, .int .i64 0, .int .i64 0, .int .i64 0, .int .i64 0, .int .i64 0, .int .i64 0, .int .i64 0, .int .i64 0, .int .i64 0, .int .i64 0, .int .i64 0, .int .i64 0, .int .i64 0, .int .i64 0, .int .i64 0, .int .i64 0, .int .i64 0, .int .i64 0, .int .i64 0, .int .i64 0, .int .i64 0, .int .i64 0, .int .i64 0, .int .i64 0, .int .i64 0, .int .i64 0, .int .i64 0, .int .i64 0, .int .i64 0, .int .i64 0, .int .i64 0, .int .i64 0, .int .i64 0, .int .i64 0] 42)
  have K5 := K4.alloc (.cells #[.int .i64 0, .int .i64 0, .int .i64 0, .int .i64 0, .int .i64 0, .int .i64 0, .int .i64 0, .int .i64 0, .int .i64 0, .int .i64 0, .int .i64 0, .int .i64 0, .int .i64 0, .int .i64 0, .int .i64 0, .int .i64 0, .int .i64 0, .int .i64 0, .int .i64 0, .int .i64 0, .int .i64 0, .int .i64 0, .int .i64 0, .int .i64 0, .int .i64 0, .int .i64 0, .int .i64 0, .int .i64 0, .int .i64 0, .int .i64 0, .int .i64 0, .int .i64 0, .int .i64 0, .int .i64 0, .int .i64 0] 42)
  have hs4 := (lt_of_block BH4)
  have hs5 := K4.size
  generalize hbc : w4.heap.size = bC at *
  generalize hbh : w3.heap.size = bH at *
  have U0 : HBlk (w4.alloc (.cells #[.int .i64 0, .int .i64 0, .int .i64 0, .int .i64 0, .int .i64 0, .int .i64 0, .int .i64 0, .int .i64 0, .int .i64 0, .int .i64 0, .int .i64 0, .int .i64 0, .int .i64 0, .int .i64 0, .int .i64 0, .int .i64 0, .int .i64 0, .int .i64 0, .int .i64 0, .int .i64 0, .int .i64 0, .int .i64 0, .int .i64 0, .int .i64 0, .int .i64 0, .int .i64 0, .int .i64 0, .int .i64 0, .int .i64 0, .int .i64 0, .int .i64 0, .int .i64 0, .int .i64 0, .int .i64 0, .int .i64 0] 42)) bC (hst c f 0) := by rw [h0]; exact BC
  generalize hW5 : w4.alloc (.cells #[.int .i64 0, .int .i64 0, .int .i64 0, .int .i64 0, .int .i64 0, .int .i64 0, .int .i64 0, .int .i64 0, .int .i64 0, .int .i64 0, .int .i64 0, .int .i64 0, .int .i64 0, .int .i64 0, .int .i64 0, .int .i64 0, .int .i64 0, .int .i64 0, .int .i64 0, .int .i64 0, .int .i64 0, .int .i64 0, .int .i64 0, .int .i64 0, .int .i64 0, .int .i64 0, .int .i64 0, .int .i64 0, .int .i64 0, .int .i64 0, .int .i64 0, .int .i64 0, .int .i64 0, .int .i64 0, .int .i64 0] 42) = W5 at *
  clear hW5 BC h0 BH4 K4 hbc hbh
  go_loopw [19, 20] (fun s i wr => ∃ k : Nat, k ≤ n ∧ s = .int .i64 (bb c f k) ∧ i = .int .i64 (f + k) ∧ HBlk wr bC (hst c f k) ∧ HBlk wr bH (hst c f n) ∧ Kept w2 wr) (fun _ i _ => (f + n - intOf i).toNat)
  case atStart => exact ⟨0, by omega, rfl, by go_num, U0, BH5, K5⟩
  case round =>
    obtain ⟨k, hk, rfl, rfl, B1, B2, hkw⟩ := hrel
    by_cases hlt : k < n
    · have g1 : f + (k : Int) ≤ f + n - 1 := by omega
      have hX := HX.out (f + k)
      have hR := HR.out k
      have KX1 := Lib.hid (fun w => KX.out (f + k) w (by omega) (by omega))
      have KX2 := Lib.hid (fun w => KX.out (bb c f k) w (by omega) (by omega))
      have HBk := Lib.hid (HB.out k)
      have HSk := Lib.hid (HS.out k)
      have hSR := fun j => HSR.out k j
      generalize bb c f k = b at *
      generalize hei : easI c (f + k) - 1 = ei at *
      generalize heb : easI c b - 1 = eb at *
      obtain ⟨x, rfl⟩ : ∃ x : Nat, ei = x := ⟨ei.toNat, by omega⟩
      have hx : x < 35 := by omega
      clear hei heb
      go_wp2_with fail
      (go_at_call 18; refine (KX1.out _).mono ?_; rintro e w6 ⟨rfl, hk6⟩)
      have B3 := B1.kept hk6
      have B4 := B2.kept hk6
      have K6 := hkw.trans hk6
      obtain ⟨c1, f1⟩ := B3.cell x hx
      have hv := hSR x
      have B5 := Lib.hid (B3.set x (hst c f k x + 1) hx)
      have B6 := Lib.hid (B4.other (o := x) (show bH ≠ bC by omega) (.int .i64 (hst c f k x + 1)))
      have HQ : Hid ((fun j => if j = x then hst c f k x + 1 else hst c f k j) = hst c f (k + 1)) := (show _ = _ from by
        have h := HSk.out
        simp only [Int.toNat_natCast] at h
        rw [← h]
        funext j
        by_cases e : j = x
        · subst e; simp
        · simp [e])
      clear B1 B2 B3 B4 hk6 hSR HSk
      generalize hst c f k x = z at *
      go_wp2_with fail
      have K7 := K6.setCell (p := ⟨bC, x, none⟩) (show w2.heap.size ≤ bC by omega) (.int .i64 (z + 1))
      generalize w6.setCell ⟨bC, x, none⟩ (.int .i64 (z + 1)) = W7 at *
      clear c1 f1
      (go_at_call 18; refine (KX1.out _).mono ?_; rintro e w8 ⟨rfl, hk8⟩)
      go_wp2_with fail
      (go_at_call 18; refine (KX2.out _).mono ?_; rintro e w9 ⟨rfl, hk9⟩)
      have B8 := Lib.hid ((B5.out.kept hk8).kept hk9)
      have B9 := Lib.hid ((B6.out.kept hk8).kept hk9)
      have K9 := (K7.trans hk8).trans hk9
      clear hk8 hk9 K7 K6 B5 B6
      by_cases hlt2 : (x : Int) < eb
      · have HF := HBk.out
        rw [if_pos hlt2] at HF
        have HF := Lib.hid HF
        go_wp2
        go_roundw
        case rel => exact ⟨k + 1, by omega, by rw [← HF.out], by go_num, by rw [← HQ.out]; exact B8.out, B9.out, K9⟩
        case measure => simp [intOf]; omega
      · have HF := HBk.out
        rw [if_neg hlt2] at HF
        have HF := Lib.hid HF
        go_wp2
        go_roundw
        case rel => exact ⟨k + 1, by omega, by rw [← HF.out], by go_num, by rw [← HQ.out]; exact B8.out, B9.out, K9⟩
        case measure => simp [intOf]; omega
    · obtain rfl : k = n := by omega
      have g1 : ¬ f + (k : Int) ≤ f + k - 1 := by omega
      go_wp2_with fail
      go_at_call 21
      refine (KZ.out _).mono ?_
      rintro e w6 ⟨o', q', rfl, hI', hk6⟩
      have K6 := hkw.trans hk6
      have HN2 := Lib.hid (HN.out L o o' q q' w6 (HI.out.kept K6) hI' (by omega))
      have B3 := B1.kept hk6
      have B4 := B2.kept hk6
      clear hI' B1 B2
      go_wp2_with fail
      go_at_call 20
      refine HN2.out.mono ?_
      rintro e w7 ⟨rfl, hk7⟩
      have K7 := K2.trans (K6.trans hk7)
      have B5 : w7.heap[bC]? = _ := B3.kept hk7
      have B6 : w7.heap[bH]? = _ := B4.kept hk7
      have heq := HEQ.out
      have R1 := rH (hst c f k)
      clear B3 B4 K6 hk6 hk7 hkw
      generalize hst c f k = H at *
      go_wp2_with (first
        | (refine BigFrame.wpList_want (by rfl) (fun K hK => wp_load_row 42 _ rfl bH rfl 42 _ _ _ B6 Try.underlying42 rfl R1 (hK _ _ ?_)))
        | (refine BigFrame.wpList_want (by rfl) (fun K hK => wp_load_row 42 _ rfl bC rfl 42 _ _ _ B5 Try.underlying42 rfl R1 (hK _ _ ?_))))
      go_ret
      exact ⟨rfl, K7⟩
set_option maxHeartbeats 4000000 in
theorem CycleMatchesReference_bad (c f l m d : Int) (bf : -9223372036854775808 ≤ f ∧ f ≤ 9223372036854775807) (bl : -9223372036854775808 ≤ l ∧ l ≤ 9223372036854775807) (hr : rgE c f l ≠ 0)
    (hn : ¬ (1 ≤ f ∧ f ≤ 1000000000 ∧ 1 ≤ l ∧ l ≤ 1000000000 ∧ 400 < l - f ∧ l - f < 10000)) (w : World) :
    Calls Try.prog 6 #[.int .i64 c, .int .i64 f, .int .i64 l, .int .i64 m, .int .i64 d] w fun e w' => e = .returned (.bool true) ∧ Kept w w' := by
  have KI1 := Lib.hid (fun w b h => In_any f w b h)
  have KI2 := Lib.hid (fun w b h => In_any l w b h)
  have KY := Lib.hid (fun w => Years_no c f l m d w bf bl hr)
  have KH := Lib.hid (fun w => Histogram_no c f l w bf bl hr)
  have KE := Lib.hid (fun w => Earliest_no c f l w bf bl hr)
  have KF := Lib.hid (fun w => rFails_any c f l w bf bl)
  obtain ⟨H, hH⟩ : ∃ H : Nat → Int, H = fun _ => 0 := ⟨_, rfl⟩
  have HEQ := Lib.hid (eq0 H hH)
  rw [← hH] at KH
  clear hH
  generalize rgE c f l = x at *
  by_cases g1 : 1 ≤ f ∧ f ≤ 1000000000
  · have KI1 := Lib.hid (fun w => KI1.out w true (decide_eq_true g1).symm)
    by_cases g2 : 1 ≤ l ∧ l ≤ 1000000000
    · have KI2 := Lib.hid (fun w => KI2.out w true (decide_eq_true g2).symm)
      obtain ⟨g3, g4⟩ := g1
      obtain ⟨g5, g6⟩ := g2
      by_cases g7 : l - f ≤ 400
      · clear hn
        go_enter Try.func6, Try.ntmps6
        go_wp2_with fail
        (go_at_call 8; (with_reducible refine (Cyc_awake _).mono ?_); rintro e w1 ⟨rfl, hk1⟩)
        go_wp2_with fail
        (go_at_call 12; (with_reducible refine (KI1.out _).mono ?_); rintro e w1 ⟨rfl, rfl⟩)
        go_wp2_with fail
        (go_at_call 12; (with_reducible refine (KI2.out _).mono ?_); rintro e w1 ⟨rfl, rfl⟩)
        go_wp2_with fail
        go_at_call 14
        refine (KY.out _).mono ?_
        rintro e w2 ⟨rfl, hk2⟩
        have K2 := hk1.trans hk2
        clear hk1 hk2
        go_wp2_with fail
        go_at_call 19
        refine (KH.out _).mono ?_
        rintro e w3 ⟨rfl, hk3⟩
        have K3 := K2.trans hk3
        have HH := Lib.hid (laid_h w w3 H K3)
        go_wp2_with (refine wpList_store_row rfl 42 _ _ rfl w3.heap.size _ rfl rfl 42 _ (new42 w3) (rH _) (zH _) (hOne _) ?_)
        obtain ⟨BH, KW3, _⟩ := HH.out
        generalize (w3.alloc (.cells #[.int .i64 0, .int .i64 0, .int .i64 0, .int .i64 0, .int .i64 0, .int .i64 0, .int .i64 0, .int .i64 0, .int .i64 0, .int .i64 0, .int .i64 0, .int .i64 0, .int .i64 0, .int .i64 0, .int .i64 0, .int .i64 0, .int .i64 0, .int .i64 0, .int .i64 0, .int .i64 0, .int .i64 0, .int .i64 0, .int .i64 0, .int .i64 0, .int .i64 0, .int .i64 0, .int .i64 0, .int .i64 0, .int .i64 0, .int .i64 0, .int .i64 0, .int .i64 0, .int .i64 0, .int .i64 0, .int .i64 0] 42)).setRow w3.heap.size (hCells H).toArray = W3 at *
        clear HH hk3 K2 K3
        (go_at_call 17; refine (KE.out _).mono ?_; rintro e w4 ⟨rfl, hk4⟩)
        have K4 := KW3.trans hk4
        have B6 : w4.heap[w3.heap.size]? = _ := BH.kept hk4
        clear BH KW3 hk4
        go_wp2_with fail
        (go_at_call 16; (with_reducible refine (KF.out _).mono ?_); rintro e w1 ⟨rfl, rfl⟩)
        have R1 := rH H
        have heq := HEQ.out
        go_wp2_with (refine BigFrame.wpList_want (by rfl) (fun K hK => wp_load_row 42 _ rfl w3.heap.size rfl 42 _ _ _ B6 Try.underlying42 rfl R1 (hK _ _ ?_)))
        go_ret
        exact ⟨rfl, K4⟩
      · have g8 : 10000 ≤ l - f := by omega
        clear hn
        go_enter Try.func6, Try.ntmps6
        go_wp2_with fail
        (go_at_call 8; (with_reducible refine (Cyc_awake _).mono ?_); rintro e w1 ⟨rfl, hk1⟩)
        go_wp2_with fail
        (go_at_call 12; (with_reducible refine (KI1.out _).mono ?_); rintro e w1 ⟨rfl, rfl⟩)
        go_wp2_with fail
        (go_at_call 12; (with_reducible refine (KI2.out _).mono ?_); rintro e w1 ⟨rfl, rfl⟩)
        go_wp2_with fail
        go_at_call 14
        refine (KY.out _).mono ?_
        rintro e w2 ⟨rfl, hk2⟩
        have K2 := hk1.trans hk2
        clear hk1 hk2
        go_wp2_with fail
        go_at_call 19
        refine (KH.out _).mono ?_
        rintro e w3 ⟨rfl, hk3⟩
        have K3 := K2.trans hk3
        have HH := Lib.hid (laid_h w w3 H K3)
        go_wp2_with (refine wpList_store_row rfl 42 _ _ rfl w3.heap.size _ rfl rfl 42 _ (new42 w3) (rH _) (zH _) (hOne _) ?_)
        obtain ⟨BH, KW3, _⟩ := HH.out
        generalize (w3.alloc (.cells #[.int .i64 0, .int .i64 0, .int .i64 0, .int .i64 0, .int .i64 0, .int .i64 0, .int .i64 0, .int .i64 0, .int .i64 0, .int .i64 0, .int .i64 0, .int .i64 0, .int .i64 0, .int .i64 0, .int .i64 0, .int .i64 0, .int .i64 0, .int .i64 0, .int .i64 0, .int .i64 0, .int .i64 0, .int .i64 0, .int .i64 0, .int .i64 0, .int .i64 0, .int .i64 0, .int .i64 0, .int .i64 0, .int .i64 0, .int .i64 0, .int .i64 0, .int .i64 0, .int .i64 0, .int .i64 0, .int .i64 0] 42)).setRow w3.heap.size (hCells H).toArray = W3 at *
        clear HH hk3 K2 K3
        (go_at_call 17; refine (KE.out _).mono ?_; rintro e w4 ⟨rfl, hk4⟩)
        have K4 := KW3.trans hk4
        have B6 : w4.heap[w3.heap.size]? = _ := BH.kept hk4
        clear BH KW3 hk4
        go_wp2_with fail
        (go_at_call 16; (with_reducible refine (KF.out _).mono ?_); rintro e w1 ⟨rfl, rfl⟩)
        have R1 := rH H
        have heq := HEQ.out
        go_wp2_with (refine BigFrame.wpList_want (by rfl) (fun K hK => wp_load_row 42 _ rfl w3.heap.size rfl 42 _ _ _ B6 Try.underlying42 rfl R1 (hK _ _ ?_)))
        go_ret
        exact ⟨rfl, K4⟩
    · have KI2 := Lib.hid (fun w => KI2.out w false (decide_eq_false g2).symm)
      clear hn g1 g2
      go_enter Try.func6, Try.ntmps6
      go_wp2_with fail
      (go_at_call 8; (with_reducible refine (Cyc_awake _).mono ?_); rintro e w1 ⟨rfl, hk1⟩)
      go_wp2_with fail
      (go_at_call 12; (with_reducible refine (KI1.out _).mono ?_); rintro e w1 ⟨rfl, rfl⟩)
      go_wp2_with fail
      (go_at_call 12; (with_reducible refine (KI2.out _).mono ?_); rintro e w1 ⟨rfl, rfl⟩)
      go_wp2_with fail
      go_at_call 14
      refine (KY.out _).mono ?_
      rintro e w2 ⟨rfl, hk2⟩
      have K2 := hk1.trans hk2
      clear hk1 hk2
      go_wp2_with fail
      go_at_call 19
      refine (KH.out _).mono ?_
      rintro e w3 ⟨rfl, hk3⟩
      have K3 := K2.trans hk3
      have HH := Lib.hid (laid_h w w3 H K3)
      go_wp2_with (refine wpList_store_row rfl 42 _ _ rfl w3.heap.size _ rfl rfl 42 _ (new42 w3) (rH _) (zH _) (hOne _) ?_)
      obtain ⟨BH, KW3, _⟩ := HH.out
      generalize (w3.alloc (.cells #[.int .i64 0, .int .i64 0, .int .i64 0, .int .i64 0, .int .i64 0, .int .i64 0, .int .i64 0, .int .i64 0, .int .i64 0, .int .i64 0, .int .i64 0, .int .i64 0, .int .i64 0, .int .i64 0, .int .i64 0, .int .i64 0, .int .i64 0, .int .i64 0, .int .i64 0, .int .i64 0, .int .i64 0, .int .i64 0, .int .i64 0, .int .i64 0, .int .i64 0, .int .i64 0, .int .i64 0, .int .i64 0, .int .i64 0, .int .i64 0, .int .i64 0, .int .i64 0, .int .i64 0, .int .i64 0, .int .i64 0] 42)).setRow w3.heap.size (hCells H).toArray = W3 at *
      clear HH hk3 K2 K3
      (go_at_call 17; refine (KE.out _).mono ?_; rintro e w4 ⟨rfl, hk4⟩)
      have K4 := KW3.trans hk4
      have B6 : w4.heap[w3.heap.size]? = _ := BH.kept hk4
      clear BH KW3 hk4
      go_wp2_with fail
      (go_at_call 16; (with_reducible refine (KF.out _).mono ?_); rintro e w1 ⟨rfl, rfl⟩)
      have R1 := rH H
      have heq := HEQ.out
      go_wp2_with (refine BigFrame.wpList_want (by rfl) (fun K hK => wp_load_row 42 _ rfl w3.heap.size rfl 42 _ _ _ B6 Try.underlying42 rfl R1 (hK _ _ ?_)))
      go_ret
      exact ⟨rfl, K4⟩
  · have KI1 := Lib.hid (fun w => KI1.out w false (decide_eq_false g1).symm)
    clear hn g1
    go_enter Try.func6, Try.ntmps6
    go_wp2_with fail
    (go_at_call 8; (with_reducible refine (Cyc_awake _).mono ?_); rintro e w1 ⟨rfl, hk1⟩)
    go_wp2_with fail
    (go_at_call 12; (with_reducible refine (KI1.out _).mono ?_); rintro e w1 ⟨rfl, rfl⟩)
    go_wp2_with fail
    go_at_call 14
    refine (KY.out _).mono ?_
    rintro e w2 ⟨rfl, hk2⟩
    have K2 := hk1.trans hk2
    clear hk1 hk2
    go_wp2_with fail
    go_at_call 19
    refine (KH.out _).mono ?_
    rintro e w3 ⟨rfl, hk3⟩
    have K3 := K2.trans hk3
    have HH := Lib.hid (laid_h w w3 H K3)
    go_wp2_with (refine wpList_store_row rfl 42 _ _ rfl w3.heap.size _ rfl rfl 42 _ (new42 w3) (rH _) (zH _) (hOne _) ?_)
    obtain ⟨BH, KW3, _⟩ := HH.out
    generalize (w3.alloc (.cells #[.int .i64 0, .int .i64 0, .int .i64 0, .int .i64 0, .int .i64 0, .int .i64 0, .int .i64 0, .int .i64 0, .int .i64 0, .int .i64 0, .int .i64 0, .int .i64 0, .int .i64 0, .int .i64 0, .int .i64 0, .int .i64 0, .int .i64 0, .int .i64 0, .int .i64 0, .int .i64 0, .int .i64 0, .int .i64 0, .int .i64 0, .int .i64 0, .int .i64 0, .int .i64 0, .int .i64 0, .int .i64 0, .int .i64 0, .int .i64 0, .int .i64 0, .int .i64 0, .int .i64 0, .int .i64 0, .int .i64 0] 42)).setRow w3.heap.size (hCells H).toArray = W3 at *
    clear HH hk3 K2 K3
    (go_at_call 17; refine (KE.out _).mono ?_; rintro e w4 ⟨rfl, hk4⟩)
    have K4 := KW3.trans hk4
    have B6 : w4.heap[w3.heap.size]? = _ := BH.kept hk4
    clear BH KW3 hk4
    go_wp2_with fail
    (go_at_call 16; (with_reducible refine (KF.out _).mono ?_); rintro e w1 ⟨rfl, rfl⟩)
    have R1 := rH H
    have heq := HEQ.out
    go_wp2_with (refine BigFrame.wpList_want (by rfl) (fun K hK => wp_load_row 42 _ rfl w3.heap.size rfl 42 _ _ _ B6 Try.underlying42 rfl R1 (hK _ _ ?_)))
    go_ret
    exact ⟨rfl, K4⟩
theorem CycleMatchesReference_walk (c f l m d : Int) (_bc : -9223372036854775808 ≤ c ∧ c ≤ 9223372036854775807) (bf : -9223372036854775808 ≤ f ∧ f ≤ 9223372036854775807) (bl : -9223372036854775808 ≤ l ∧ l ≤ 9223372036854775807) (_b1 : -9223372036854775808 ≤ m ∧ m ≤ 9223372036854775807) (_b2 : -9223372036854775808 ≤ d ∧ d ≤ 9223372036854775807) (w : World) :
    Calls Try.prog 6 #[.int .i64 c, .int .i64 f, .int .i64 l, .int .i64 m, .int .i64 d] w fun e w' => e = .returned (.bool true) ∧ Kept w w' := by
  by_cases g : 1 ≤ f ∧ f ≤ 1000000000 ∧ 1 ≤ l ∧ l ≤ 1000000000 ∧ 400 < l - f ∧ l - f < 10000
  · obtain ⟨g1, g2, g3, g4, g5, g6⟩ := g
    have KI1 := Lib.hid (fun w => In_yes f w g1 g2)
    have KI2 := Lib.hid (fun w => In_yes l w g3 g4)
    go_enter Try.func6, Try.ntmps6
    go_wp2_with fail
    (go_at_call 8; (with_reducible refine (Cyc_awake _).mono ?_); rintro e w1 ⟨rfl, hk1⟩)
    go_wp2_with fail
    (go_at_call 12; (with_reducible refine (KI1.out _).mono ?_); rintro e w1 ⟨rfl, rfl⟩)
    go_wp2_with fail
    (go_at_call 12; (with_reducible refine (KI2.out _).mono ?_); rintro e w1 ⟨rfl, rfl⟩)
    go_wp2_with fail
    (go_at_call 8; refine (Cyc_awake _).mono ?_; rintro e w2 ⟨rfl, hk2⟩)
    go_wp2
    go_ret
    exact ⟨rfl, (by repeat (first | with_reducible exact Kept.refl _ | with_reducible assumption | with_reducible refine Kept.drew ?_ | with_reducible refine Kept.drewN ?_ _ | with_reducible refine Kept.alloc ?_ _ | (with_reducible refine Kept.setCell ?_ (by first | exact Nat.le_refl _ | omega | (simp; done) | (simp; omega)) _) | (with_reducible refine Kept.trans ?_ (by with_reducible assumption))))⟩
  · by_cases hr : rgE c f l = 0
    · obtain ⟨a1, a2, a3, a4⟩ := rg_zero c f l hr
      have b1 := (fit_cal c f a1).2
      have b2 := (fit_cal c l a2).2
      exact CycleMatchesReference_good c f l m d hr (by omega) w
    · exact CycleMatchesReference_bad c f l m d bf bl hr g w

set_option maxRecDepth 100000 in
theorem CycleMatchesReference_lifted (os : Os) (started : os.Started) (H : Type) (enc : TypeId × Value → H) :
    ReturnsInHanded {} Try.checked os 6 .any (Rows.cycleMatchesReferenceSpec.pre6 enc Try.prog Try.f6 Rows.cycleMatchesReferenceRow.domain false) (Rows.cycleMatchesReferenceSpec.post enc Try.prog Try.f6 false true false false) := by
  refine returnsInHanded_of_change (C := Try.checked) own_knob started (by kernel_rfl) Try.func6
    (ChangeSpec.witness6 (enc := enc) (C := Try.checked) false ⟨#[], #[.int .i64 0, .int .i64 0, .int .i64 0, .int .i64 0, .int .i64 0], []⟩ 8 (by kernel_rfl) (by kernel_rfl) (by kernel_rfl) (by kernel_rfl)) ?_
  intro W base args ds gs before hval0 hW hcnd _
  have hval : ∀ (j : Nat) t v, Try.f6.params[j]? = some t → args[j]? = some v → Value.okWide Try.prog W .any base t v := hval0
  clear hval0
  have hW' := hW
  obtain ⟨p, q, hA0, hV, rfl, hfz, hnd⟩ := hW
  have hA : DataW.TrodAll enc Try.prog W 0 (fun _ => true) true Try.f6.params.toList args.toList ds p := hA0
  rw [Try.params6] at hA hval
  obtain ⟨v0, vs0, d0, ds0, p0, q0, hargs, rfl, rfl, h0, r0⟩ := trodAll_cons hA
  obtain ⟨v1, vs1, d1, ds1, p1, q1, rfl, rfl, rfl, h1, r1⟩ := trodAll_cons r0
  obtain ⟨v2, vs2, d2, ds2, p2, q2, rfl, rfl, rfl, h2, r2⟩ := trodAll_cons r1
  obtain ⟨v3, vs3, d3, ds3, p3, q3, rfl, rfl, rfl, h3, r3⟩ := trodAll_cons r2
  obtain ⟨v4, vs4, d4, ds4, p4, q4, rfl, rfl, rfl, h4, r4⟩ := trodAll_cons r3
  obtain ⟨rfl, rfl, rfl⟩ := trodAll_nil r4
  obtain rfl : args = #[v0, v1, v2, v3, v4] := by cases args; simp_all
  obtain ⟨rfl, rfl⟩ := trodVars_none hV
  obtain ⟨a0, rfl, rfl, rfl, w0⟩ := open_int Try.underlying3 (hval 0 3 v0 rfl rfl) h0
  obtain ⟨a1, rfl, rfl, rfl, w1⟩ := open_int Try.underlying3 (hval 1 3 v1 rfl rfl) h1
  obtain ⟨a2, rfl, rfl, rfl, w2⟩ := open_int Try.underlying3 (hval 2 3 v2 rfl rfl) h2
  obtain ⟨a3, rfl, rfl, rfl, w3⟩ := open_int Try.underlying3 (hval 3 3 v3 rfl rfl) h3
  obtain ⟨a4, rfl, rfl, rfl, w4⟩ := open_int Try.underlying3 (hval 4 3 v4 rfl rfl) h4
  clear hA0
  simp only [List.append_nil] at hW'
  refine (CycleMatchesReference_walk a0 a1 a2 a3 a4 (wf_bounds w0) (wf_bounds w1) (wf_bounds w2) (wf_bounds w3) (wf_bounds w4) W).mono fun e W' ⟨he, hg⟩ => ?_
  subst he
  exact ⟨_, rfl, post_of_kept (pa := []) (pv := []) hW' (fun _ _ _ => (trodAll_cons_mk (shut_bool Try.underlying4 _) trodAll_mk0)) (fun sp _ => (trodAll_cons_mk (shut_int Try.underlying3 w0) (trodAll_cons_mk (shut_int Try.underlying3 w1) (trodAll_cons_mk (shut_int Try.underlying3 w2) (trodAll_cons_mk (shut_int Try.underlying3 w3) (trodAll_cons_mk (shut_int Try.underlying3 w4) trodAll_mk0)))))) (fun _ _ => rfl) rfl
    hg (ok_one (by kernel_rfl) rfl (okWide_bool_mk Try.underlying4 _))⟩
theorem CycleMatchesReference_proved : Rows.CycleMatchesReferenceSaid :=
  OpenClaim.holds_of_wide 6 Try.f6 rfl rfl rfl rfl rfl rfl rfl ⟨rfl, rfl, rfl, rfl, rfl⟩ rfl rfl rfl rfl rfl (by kernel_rfl) Try.func6 (by kernel_rfl)
    (of_decide_eq_true (by kernel_rfl)) (by unfold Func.isWrapper; first | (rw [if_pos (by decide +kernel)]; kernel_rfl) | (rw [if_neg (by decide +kernel)]; exact ⟨rfl, rfl⟩))
    (fun os started H enc _ => CycleMatchesReference_lifted os started H enc)
#print axioms CycleMatchesReference_proved
end Go.Proofs.Ytekgaihdfnhkpaa

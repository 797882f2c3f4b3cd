/- CatalogueGrows. -/
import Derived.Test.YthhaicledbcnmaaCatAw
import Derived.Test.YthhaicledbcnmaaGrw3
import Derived.Test.YthhaicledbcnmaaGrw2
import Derived.Test.YthhaicledbcnmaaCatF
import Derived.Test.YthhaicledbcnmaaRows
set_option linter.unusedSimpArgs false
set_option linter.unusedVariables false
set_option linter.unusedSectionVars false
namespace Go.Proofs.Ythhaicledbcnmaa
open Go.ChangeShapes Go.WideShapes Go.ChangeAt Go.RowKit
set_option maxHeartbeats 8000000
set_option maxRecDepth 20000

theorem Right_any (f : Int) (o o' : Option Addr) (q q' : Nat) (L M : List Rec) (w : World) (hL : IsRecs w o L) (hM : IsRecs w o' M) (okL : ∀ r ∈ L, r.ok) (okM : ∀ r ∈ M, r.ok) :
    Calls Try.prog 19 #[.agg #[.int .i64 f, .slice o L.length q, .slice o' M.length q']] w fun e w' => e = .returned (.bool (decide (L.length ≤ 8 ∧ M.length ≤ 30) && catB f L M)) ∧ Kept w w' := by
  have KF := Lib.hid (fun w => CFew_any f o o' q q' L M w)
  have KR := Lib.hid (fun w' (k : Kept w w') => RCheck_any f o o' q q' L M w' (hL.kept k) (hM.kept k) okL okM)
  clear hL hM okL okM
  generalize catB f L M = cb at *
  cases hd : decide (L.length ≤ 8 ∧ M.length ≤ 30) with
  | true =>
    rw [hd] at KF
    clear hd
    go_enter Try.func19, Try.ntmps19
    go_wp2_with fail
    (go_at_call 17; refine (KF.out _).mono ?_; rintro e w1 ⟨rfl, hk1⟩)
    have hB1_1 := hk1
    obtain ⟨hc1_1, hf1_1⟩ := kept_cells hB1_1
    have hz1_0_1 : w.heap.size < w1.heap.size := by have := hB1_1.size; simp at this; omega
    go_wp2_with fail
    (go_at_call 15; refine (KR.out _ (by repeat (first | with_reducible exact Kept.refl _ | with_reducible assumption | with_reducible refine Kept.drew ?_ | with_reducible refine Kept.drewN ?_ _ | with_reducible refine Kept.alloc ?_ _ | (with_reducible refine Kept.setCell ?_ (by first | exact Nat.le_refl _ | omega | (simp; done) | (simp; omega)) _) | (with_reducible refine Kept.trans ?_ (by with_reducible assumption))))).mono ?_; rintro e w2 ⟨rfl, hk2⟩)
    have hB1_2 := Kept.trans hB1_1 hk2
    obtain ⟨hc1_2, hf1_2⟩ := kept_cells hB1_2
    have hz1_0_2 : w.heap.size < w2.heap.size := by have := hB1_2.size; simp at this; omega
    go_wp2
    go_ret
    exact ⟨rfl, (by repeat (first | with_reducible exact Kept.refl _ | with_reducible assumption | with_reducible refine Kept.drew ?_ | with_reducible refine Kept.drewN ?_ _ | with_reducible refine Kept.alloc ?_ _ | (with_reducible refine Kept.setCell ?_ (by first | exact Nat.le_refl _ | omega | (simp; done) | (simp; omega)) _) | (with_reducible refine Kept.trans ?_ (by with_reducible assumption))))⟩
  | false =>
    rw [hd] at KF
    clear hd
    go_enter Try.func19, Try.ntmps19
    go_wp2_with fail
    (go_at_call 17; refine (KF.out _).mono ?_; rintro e w1 ⟨rfl, hk1⟩)
    have hB1_1 := hk1
    obtain ⟨hc1_1, hf1_1⟩ := kept_cells hB1_1
    have hz1_0_1 : w.heap.size < w1.heap.size := by have := hB1_1.size; simp at this; omega
    go_wp2
    go_ret
    exact ⟨rfl, (by repeat (first | with_reducible exact Kept.refl _ | with_reducible assumption | with_reducible refine Kept.drew ?_ | with_reducible refine Kept.drewN ?_ _ | with_reducible refine Kept.alloc ?_ _ | (with_reducible refine Kept.setCell ?_ (by first | exact Nat.le_refl _ | omega | (simp; done) | (simp; omega)) _) | (with_reducible refine Kept.trans ?_ (by with_reducible assumption))))⟩

theorem Grows_core (f : Int) (o o' : Option Addr) (q q' : Nat) (L M : List Rec) (s : ByteArray) (x1 x2 x3 x4 x5 x6 x7 x8 : Int) (n : Int) (w : World) (hL : IsRecs w o L) (hM : IsRecs w o' M) (okL : ∀ r ∈ L, r.ok) (okM : ∀ r ∈ M, r.ok)
    (hok : Rec.ok ⟨s, x1, x2, x3, x4, x5, x6, x7, x8⟩) (bn : 0 ≤ n ∧ n ≤ 255) (h8 : L.length ≤ 8) (h30 : M.length ≤ 30) (hq : M.length ≤ q') (hc : catB f L M = true) (hfe : feaB s x1 x2 x3 x4 x5 x6 x7 x8 = true) :
    Calls Try.prog 5 #[.agg #[.int .i64 f, .slice o L.length q, .slice o' M.length q'], .agg #[.string s, .int .i64 x1, .int .i64 x2, .int .i64 x3, .int .i64 x4, .int .i64 x5, .int .i64 x6, .int .i64 x7, .int .i64 x8], .int .u8 n] w fun e w' => e = .returned (.bool true) ∧ Kept w w' := by
  have h1 : 0 < L.length := by have := (of_decide_eq_true hc).2.1.1; omega
  have KR := Lib.hid (fun w' (k : Kept w w') => Right_any f o o' q q' L M w' (hL.kept k) (hM.kept k) okL okM)
  rw [hc, decide_eq_true ⟨h8, h30⟩, Bool.true_and] at KR
  have KU := Lib.hid (fun w => rFeast_any s x1 x2 x3 x4 x5 x6 x7 x8 w hok.2)
  rw [hfe] at KU
  have KI := Lib.hid (fun (i : Nat) (hi : i < L.length + M.length) w' (k : Kept w w') => CId_any f o o' q q' L M i w' (hL.kept k) (hM.kept k) (by omega) (by omega) (by omega))
  have KP := Lib.hid (fun w' (k : Kept w w') => Copy_any f o o' q q' L M w' (hL.kept k) (hM.kept k) h1 h8 h30)
  obtain ⟨iF, hiF, hzF0, hzF1, hzF2⟩ := info_parts info_feaz
  have HL := Lib.hid hL
  have HM := Lib.hid hM
  have HkL := Lib.hid okL
  have HkM := Lib.hid okM
  have HC := Lib.hid hc
  have HF := Lib.hid hfe
  have HO := Lib.hid hok
  clear hL hM okL okM hc hfe hok
  go_enter Try.func5, Try.ntmps5
  go_wp2_with fail
  (go_at_call 7; refine (Cat_awake _).mono ?_; rintro e w1 ⟨rfl, hk1⟩)
  have hB1_1 := hk1
  obtain ⟨hc1_1, hf1_1⟩ := kept_cells hB1_1
  have hz1_0_1 : w.heap.size < w1.heap.size := by have := hB1_1.size; simp at this; omega
  have hz1_1_1 : w.heap.size + 1 < w1.heap.size := by have := hB1_1.size; simp at this; omega
  go_wp2_with fail
  (go_at_call 19; refine (KR.out _ (by repeat (first | with_reducible exact Kept.refl _ | with_reducible assumption | with_reducible refine Kept.drew ?_ | with_reducible refine Kept.drewN ?_ _ | with_reducible refine Kept.alloc ?_ _ | (with_reducible refine Kept.setCell ?_ (by first | exact Nat.le_refl _ | omega | (simp; done) | (simp; omega)) _) | (with_reducible refine Kept.trans ?_ (by with_reducible assumption))))).mono ?_; rintro e w2 ⟨rfl, hk2⟩)
  have hB1_2 := Kept.trans hB1_1 hk2
  obtain ⟨hc1_2, hf1_2⟩ := kept_cells hB1_2
  have hz1_0_2 : w.heap.size < w2.heap.size := by have := hB1_2.size; simp at this; omega
  have hz1_1_2 : w.heap.size + 1 < w2.heap.size := by have := hB1_2.size; simp at this; omega
  go_wp2_with fail
  (go_at_call 13; refine (KU.out _).mono ?_; rintro e w3 ⟨rfl, hk3⟩)
  have hB1_3 := Kept.trans hB1_2 hk3
  obtain ⟨hc1_3, hf1_3⟩ := kept_cells hB1_3
  have hz1_0_3 : w.heap.size < w3.heap.size := by have := hB1_3.size; simp at this; omega
  have hz1_1_3 : w.heap.size + 1 < w3.heap.size := by have := hB1_3.size; simp at this; omega
  go_wp2_with fail
  have hboxA : ∀ i u, #[(.int .i64 f : Value), .slice o L.length q, .slice o' M.length q'][i]? = some u → w3.cell? ⟨w.heap.size, i, none⟩ = some u := fun i u hu => by
    rw [hB1_3.cell w.heap.size i (by simp; omega), ((Kept.refl (w.alloc _)).alloc _).cell w.heap.size i (by simp), cell_here]
    exact hu
  have hboxB : ∀ i u, #[(.string s : Value), .int .i64 x1, .int .i64 x2, .int .i64 x3, .int .i64 x4, .int .i64 x5, .int .i64 x6, .int .i64 x7, .int .i64 x8][i]? = some u → w3.cell? ⟨w.heap.size + 1, i, none⟩ = some u := fun i u hu => by
    have hs1 : (w.alloc (.cells #[.int .i64 f, .slice o L.length q, .slice o' M.length q'] 25)).heap.size = w.heap.size + 1 := by simp
    rw [hB1_3.cell (w.heap.size + 1) i (by simp), ← hs1, cell_here]
    exact hu
  have hk03 : Kept w w3 := Kept.trans (((Kept.refl w).alloc _).alloc _) hB1_3
  have hz3 : w.heap.size + 1 < w3.heap.size := by have := hB1_3.size; simp at this; omega
  have HB := Lib.hid hboxA
  have HE := Lib.hid hboxB
  clear hboxA hboxB
  clear hk1 hB1_1 hc1_1 hf1_1 hz1_0_1 hz1_1_1 hk2 hB1_2 hc1_2 hf1_2 hz1_0_2 hz1_1_2 hk3 hB1_3 hc1_3 hf1_3 hz1_0_3 hz1_1_3 KR KU
  have HT := Lib.hid (take_id L M)
  go_loopw [7, 8] (fun u i wr => ∃ k : Nat, k ≤ L.length + M.length ∧ i = .int .i64 k ∧ u = .bool (inB s ((ids L ++ ids M).take k)) ∧ Kept w3 wr) (fun _ i _ => (L.length + M.length - intOf i).toNat)
  case atStart => exact ⟨0, Nat.zero_le _, rfl, rfl, Kept.refl _⟩
  case round =>
    obtain ⟨k, hk, rfl, rfl, hkr⟩ := hrel
    have hzr : w.heap.size + 1 < wr.heap.size := Nat.lt_of_lt_of_le hz3 hkr.size
    have hzr0 : w.heap.size < wr.heap.size := by omega
    have a0 := (hkr.cell _ _ (by omega)).trans (HB.out 0 _ rfl)
    have a1 := (hkr.cell _ _ (by omega)).trans (HB.out 1 _ rfl)
    have a2 := (hkr.cell _ _ (by omega)).trans (HB.out 2 _ rfl)
    have b0 := (hkr.cell _ _ hz3).trans (HE.out 0 _ rfl)
    by_cases hlt : k < L.length + M.length
    · have HTk := Lib.hid (HT.out k hlt)
      have hse := str_eq (idAt L M k) s
      have hsn := inB_snoc s (idAt L M k) ((ids L ++ ids M).take k)
      rw [← HTk.out] at hsn
      have hlt' : (k : Int) < (L.length : Int) + (M.length : Int) := by omega
      have KX := Lib.hid (fun w' (kk : Kept wr w') => KI.out k hlt w' (Kept.trans hk03 (Kept.trans hkr kk)))
      rw [Int.toNat_natCast] at KX
      generalize inB s ((ids L ++ ids M).take k) = u1 at *
      generalize idAt L M k = ik at *
      generalize decide (ik = s) = hit at *
      have hsn := Lib.hid hsn
      cases u1 with
      | true =>
        go_wp2_with fail
        go_quiet (fail)
        go_wp2
        go_roundw
        case rel => exact ⟨k + 1, by omega, by go_num, by rw [hsn.out]; rfl, hkr.trans (Kept.drewN (Kept.refl _) _)⟩
        case measure => simp [intOf]; omega
      | false =>
        go_wp2_with fail
        go_region_held3 (fun w' => Kept wr w' ∧ (∀ b o, b < wr.heap.size → w'.cell? ⟨b, o, none⟩ = wr.cell? ⟨b, o, none⟩)) (first | exact held_of (Kept.drew (Kept.refl _)) | exact held_of (Kept.trans (And.left (by assumption)) (by assumption))) (first | (go_at_call 18; (with_reducible refine (KX.out _ (And.left (by assumption))).mono ?_); rintro e v1 ⟨rfl, hq1⟩))
        go_wp2
        go_roundw
        case rel => exact ⟨k + 1, by omega, by go_num, by rw [hsn.out]; rfl, hkr.trans (And.left (by assumption))⟩
        case measure => simp [intOf]; omega
    · obtain rfl : k = L.length + M.length := by omega
      rw [List.take_of_length_le (by simp [ids])]
      have hge : ¬ ((L.length + M.length : Nat) : Int) < (L.length : Int) + (M.length : Int) := by omega
      obtain ⟨ub, hub⟩ : ∃ x, x = inB s (ids L ++ ids M) := ⟨_, rfl⟩
      rw [← hub]
      have HU : Hid (ub = inB s (ids L ++ ids M)) := hub
      clear hub HT
      go_wp2_with fail
      go_at_call 20
      refine (KP.out _ (Kept.trans hk03 hkr)).mono ?_
      rintro e w4 ⟨hk4, o1, c1, o2, c2, rfl, r1, r2⟩
      have hk34 := hkr.trans hk4
      have hz4 : w.heap.size + 1 < w4.heap.size := Nat.lt_of_lt_of_le hz3 hk34.size
      have hz40 : w.heap.size < w4.heap.size := by omega
      clear a0 a1 a2 b0 hzr hzr0
      have b0 := (hk34.cell _ _ hz3).trans (HE.out 0 _ rfl)
      have b1 := (hk34.cell _ _ hz3).trans (HE.out 1 _ rfl)
      have b2 := (hk34.cell _ _ hz3).trans (HE.out 2 _ rfl)
      have b3 := (hk34.cell _ _ hz3).trans (HE.out 3 _ rfl)
      have b4 := (hk34.cell _ _ hz3).trans (HE.out 4 _ rfl)
      have b5 := (hk34.cell _ _ hz3).trans (HE.out 5 _ rfl)
      have b6 := (hk34.cell _ _ hz3).trans (HE.out 6 _ rfl)
      have b7 := (hk34.cell _ _ hz3).trans (HE.out 7 _ rfl)
      have b8 := (hk34.cell _ _ hz3).trans (HE.out 8 _ rfl)
      have R1 := Lib.hid r1
      have R2 := Lib.hid r2
      clear r1 r2
      go_wp2_with (at_builtin; refine wpList_append_own _ rfl _ _ 23 rfl wr.heap.size 31 iF _ 9 80 Try.underlying23 hiF hzF0 hzF1 hzF2 rfl (by decide) (.slice o2 M.length c2) M.length (recs M) rfl ?cH ⟨w4.heap.size + 1, 0, none⟩ 1 1 [.string s, .int .i64 x1, .int .i64 x2, .int .i64 x3, .int .i64 x4, .int .i64 x5, .int .i64 x6, .int .i64 x7, .int .i64 x8] rfl rfl ?c1L ?c2L ?c3L ?c4L ?c5L ?_)
      case cH => exact owns_kept' R2.out (by (repeat (first | assumption | exact Kept.refl _ | apply Kept.drew | apply Kept.alloc | (refine Kept.setCell ?_ (by dsimp only; omega) _))))
      case c1L => exact World.news_of_block (cs := #[.string s, .int .i64 x1, .int .i64 x2, .int .i64 x3, .int .i64 x4, .int .i64 x5, .int .i64 x6, .int .i64 x7, .int .i64 x8]) (t := 31) (fr := (0, 0)) (heap_alloc2_new _ _ _)
      case c2L => simp [Value.oneCell']
      case c3L => unfold maxLen; omega
      case c4L => omega
      case c5L => have := hk4.size; simp; omega
      intro v' w5 hown1 hgrow _
      obtain ⟨oD, cD, rfl⟩ := owns_form' hown1
      obtain ⟨⟨e0, e1, e2, z2⟩, ⟨d0, d1, d2, hz6⟩, hk6, RL, RD⟩ := one_more (r := ⟨s, x1, x2, x3, x4, x5, x6, x7, x8⟩) hk4 R1.out R2.out hgrow hown1 (.slice oD (M.length + 1) cD)
      have hD := Lib.hid (And.intro d0 (And.intro d1 (And.intro d2 hz6)))
      have RL := Lib.hid RL
      have RD := Lib.hid RD
      have hk36 := hkr.trans hk6
      clear hown1 hgrow b0 b1 b2 b3 b4 b5 b6 b7 b8 d0 d1 d2 hz6 hk34 hz4 hz40 R1 R2 hk4 hk6
      go_wp2_with fail
      generalize w5.setCell ⟨w4.heap.size, 2, none⟩ (.slice oD (M.length + 1) cD) = w6 at *
      generalize w4.heap.size = bd at *
      obtain ⟨d0, d1, d2, hz6⟩ := hD.out
      have hzc6 : w.heap.size + 1 < w6.heap.size := Nat.lt_of_lt_of_le hz3 hk36.size
      have hzc60 : w.heap.size < w6.heap.size := by omega
      have a0 := (hk36.cell _ _ (by omega)).trans (HB.out 0 _ rfl)
      have a1 := (hk36.cell _ _ (by omega)).trans (HB.out 1 _ rfl)
      have a2 := (hk36.cell _ _ (by omega)).trans (HB.out 2 _ rfl)
      have b0 := (hk36.cell _ _ hz3).trans (HE.out 0 _ rfl)
      have hle1 : (M ++ [(⟨s, x1, x2, x3, x4, x5, x6, x7, x8⟩ : Rec)]).length = M.length + 1 := by simp
      have KD := Lib.hid (fun w' (k : Kept w6 w') => CCheck_any f o1 oD c1 cD L (M ++ [⟨s, x1, x2, x3, x4, x5, x6, x7, x8⟩]) w' (RL.out.kept k) (RD.out.kept k) HkL.out (fun r hr => by
        rw [List.mem_append, List.mem_singleton] at hr
        rcases hr with hr | rfl
        · exact HkM.out r hr
        · exact HO.out))
      have KFd := Lib.hid (fun w' (k : Kept w6 w') => Find_any f o1 oD c1 cD L (M ++ [⟨s, x1, x2, x3, x4, x5, x6, x7, x8⟩]) s w' (RD.out.kept k) (by rw [hle1]; omega))
      rw [hle1] at KD KFd
      clear e0 e1 e2 z2 hle1
      cases ub with
      | true =>
        rw [grows_in f L M ⟨s, x1, x2, x3, x4, x5, x6, x7, x8⟩ HU.out.symm, chV_f] at KD
        clear KFd RL RD hD HU
        go_wp2_with fail
        refine wp_region_held_drew (S := fun w' => Kept (w6) w' ∧ (∀ b o, b < (w6).heap.size → w'.cell? ⟨b, o, none⟩ = (w6).cell? ⟨b, o, none⟩)) (by kernel_rfl) (held_of (Kept.drew (Kept.refl _))) (fun hHeld => ?_)
        first
        | (refine wpAnyH_take (i := 0) (v := ?_) (Array.getElem?_eq_getElem (by decide)) (by kernel_rfl) (by kernel_rfl) (by kernel_rfl) (fun _ _ _ h => h) (Or.inl ⟨by rfl, ?_⟩) (by assumption) ?_; rotate_left; (intro w hSw; (try dsimp only at hSw); go_simp; done); simp only [Act.put, List.setIfInBounds_toArray, List.set_cons_zero, List.set_cons_succ, List.getElem_toArray, List.getElem_cons_succ, List.getElem_cons_zero])
        | (refine wpAnyH_take (i := 0) (v := ?_) (Array.getElem?_eq_getElem (by decide)) (by kernel_rfl) (by kernel_rfl) (by kernel_rfl) (fun _ _ _ h => h) (Or.inl ⟨by rfl, ?_⟩) (by assumption) ?_; rotate_left; (intro w hSw; (try dsimp only at hSw); go_simp; with_reducible rfl); simp only [Act.put, List.setIfInBounds_toArray, List.set_cons_zero, List.set_cons_succ, List.getElem_toArray, List.getElem_cons_succ, List.getElem_cons_zero])
        | (refine wpAnyH_take (i := 0) (v := undef) (Array.getElem?_eq_getElem (by decide)) (by kernel_rfl) (by kernel_rfl) (by kernel_rfl) (fun _ _ _ h => h) (Or.inr ⟨by rfl, rfl⟩) (by assumption) ?_; simp only [Act.put, List.setIfInBounds_toArray, List.set_cons_zero, List.set_cons_succ, List.getElem_toArray, List.getElem_cons_succ, List.getElem_cons_zero])
        first
        | (refine wpAnyH_take (i := 3) (v := ?_) (Array.getElem?_eq_getElem (by decide)) (by kernel_rfl) (by kernel_rfl) (by kernel_rfl) (fun _ _ _ h => h) (Or.inl ⟨by rfl, ?_⟩) (by assumption) ?_; rotate_left; (intro w hSw; (try dsimp only at hSw); go_simp; done); simp only [Act.put, List.setIfInBounds_toArray, List.set_cons_zero, List.set_cons_succ, List.getElem_toArray, List.getElem_cons_succ, List.getElem_cons_zero])
        | (refine wpAnyH_take (i := 3) (v := ?_) (Array.getElem?_eq_getElem (by decide)) (by kernel_rfl) (by kernel_rfl) (by kernel_rfl) (fun _ _ _ h => h) (Or.inl ⟨by rfl, ?_⟩) (by assumption) ?_; rotate_left; (intro w hSw; (try dsimp only at hSw); go_simp; with_reducible rfl); simp only [Act.put, List.setIfInBounds_toArray, List.set_cons_zero, List.set_cons_succ, List.getElem_toArray, List.getElem_cons_succ, List.getElem_cons_zero])
        | (refine wpAnyH_take (i := 3) (v := undef) (Array.getElem?_eq_getElem (by decide)) (by kernel_rfl) (by kernel_rfl) (by kernel_rfl) (fun _ _ _ h => h) (Or.inr ⟨by rfl, rfl⟩) (by assumption) ?_; simp only [Act.put, List.setIfInBounds_toArray, List.set_cons_zero, List.set_cons_succ, List.getElem_toArray, List.getElem_cons_succ, List.getElem_cons_zero])
        refine wpAnyH_ready (rs := [1]) (by kernel_rfl) (by simp) ?_
        refine AllReadyH.cons rfl (fun K hK => ?_) AllReadyH.nil
        go_simp
        go_at_call 14
        (with_reducible refine (KD.out _ (And.left (by assumption))).mono ?_)
        rintro e v1 ⟨rfl, hq1⟩
        refine hK.out _ _ (held_of (Kept.trans (And.left (by assumption)) (by assumption))) (fun hHeld1 => ?_)
        clear hK K
        try simp only [Act.put, List.setIfInBounds_toArray, List.set_cons_zero, List.set_cons_succ, List.getElem_toArray, List.getElem_cons_succ, List.getElem_cons_zero]
        first
        | (refine wpAnyH_take (i := 2) (v := ?_) (Array.getElem?_eq_getElem (by decide)) (by kernel_rfl) (by kernel_rfl) (by kernel_rfl) (fun _ _ _ h => h) (Or.inl ⟨by rfl, ?_⟩) (by assumption) ?_; rotate_left; (intro w hSw; (try dsimp only at hSw); go_simp; done); simp only [Act.put, List.setIfInBounds_toArray, List.set_cons_zero, List.set_cons_succ, List.getElem_toArray, List.getElem_cons_succ, List.getElem_cons_zero])
        | (refine wpAnyH_take (i := 2) (v := ?_) (Array.getElem?_eq_getElem (by decide)) (by kernel_rfl) (by kernel_rfl) (by kernel_rfl) (fun _ _ _ h => h) (Or.inl ⟨by rfl, ?_⟩) (by assumption) ?_; rotate_left; (intro w hSw; (try dsimp only at hSw); go_simp; with_reducible rfl); simp only [Act.put, List.setIfInBounds_toArray, List.set_cons_zero, List.set_cons_succ, List.getElem_toArray, List.getElem_cons_succ, List.getElem_cons_zero])
        | (refine wpAnyH_take (i := 2) (v := undef) (Array.getElem?_eq_getElem (by decide)) (by kernel_rfl) (by kernel_rfl) (by kernel_rfl) (fun _ _ _ h => h) (Or.inr ⟨by rfl, rfl⟩) (by assumption) ?_; simp only [Act.put, List.setIfInBounds_toArray, List.set_cons_zero, List.set_cons_succ, List.getElem_toArray, List.getElem_cons_succ, List.getElem_cons_zero])
        first
        | (refine wpAnyH_take (i := 4) (v := ?_) (Array.getElem?_eq_getElem (by decide)) (by kernel_rfl) (by kernel_rfl) (by kernel_rfl) (fun _ _ _ h => h) (Or.inl ⟨by rfl, ?_⟩) (by assumption) ?_; rotate_left; (intro w hSw; (try dsimp only at hSw); go_simp; done); simp only [Act.put, List.setIfInBounds_toArray, List.set_cons_zero, List.set_cons_succ, List.getElem_toArray, List.getElem_cons_succ, List.getElem_cons_zero])
        | (refine wpAnyH_take (i := 4) (v := ?_) (Array.getElem?_eq_getElem (by decide)) (by kernel_rfl) (by kernel_rfl) (by kernel_rfl) (fun _ _ _ h => h) (Or.inl ⟨by rfl, ?_⟩) (by assumption) ?_; rotate_left; (intro w hSw; (try dsimp only at hSw); go_simp; with_reducible rfl); simp only [Act.put, List.setIfInBounds_toArray, List.set_cons_zero, List.set_cons_succ, List.getElem_toArray, List.getElem_cons_succ, List.getElem_cons_zero])
        | (refine wpAnyH_take (i := 4) (v := undef) (Array.getElem?_eq_getElem (by decide)) (by kernel_rfl) (by kernel_rfl) (by kernel_rfl) (fun _ _ _ h => h) (Or.inr ⟨by rfl, rfl⟩) (by assumption) ?_; simp only [Act.put, List.setIfInBounds_toArray, List.set_cons_zero, List.set_cons_succ, List.getElem_toArray, List.getElem_cons_succ, List.getElem_cons_zero])
        first
        | (refine wpAnyH_take (i := 5) (v := ?_) (Array.getElem?_eq_getElem (by decide)) (by kernel_rfl) (by kernel_rfl) (by kernel_rfl) (fun _ _ _ h => h) (Or.inl ⟨by rfl, ?_⟩) (by assumption) ?_; rotate_left; (intro w hSw; (try dsimp only at hSw); go_simp; done); simp only [Act.put, List.setIfInBounds_toArray, List.set_cons_zero, List.set_cons_succ, List.getElem_toArray, List.getElem_cons_succ, List.getElem_cons_zero])
        | (refine wpAnyH_take (i := 5) (v := ?_) (Array.getElem?_eq_getElem (by decide)) (by kernel_rfl) (by kernel_rfl) (by kernel_rfl) (fun _ _ _ h => h) (Or.inl ⟨by rfl, ?_⟩) (by assumption) ?_; rotate_left; (intro w hSw; (try dsimp only at hSw); go_simp; with_reducible rfl); simp only [Act.put, List.setIfInBounds_toArray, List.set_cons_zero, List.set_cons_succ, List.getElem_toArray, List.getElem_cons_succ, List.getElem_cons_zero])
        | (refine wpAnyH_take (i := 5) (v := undef) (Array.getElem?_eq_getElem (by decide)) (by kernel_rfl) (by kernel_rfl) (by kernel_rfl) (fun _ _ _ h => h) (Or.inr ⟨by rfl, rfl⟩) (by assumption) ?_; simp only [Act.put, List.setIfInBounds_toArray, List.set_cons_zero, List.set_cons_succ, List.getElem_toArray, List.getElem_cons_succ, List.getElem_cons_zero])
        first
        | (refine wpAnyH_take (i := 6) (v := ?_) (Array.getElem?_eq_getElem (by decide)) (by kernel_rfl) (by kernel_rfl) (by kernel_rfl) (fun _ _ _ h => h) (Or.inl ⟨by rfl, ?_⟩) (by assumption) ?_; rotate_left; (intro w hSw; (try dsimp only at hSw); go_simp; done); simp only [Act.put, List.setIfInBounds_toArray, List.set_cons_zero, List.set_cons_succ, List.getElem_toArray, List.getElem_cons_succ, List.getElem_cons_zero])
        | (refine wpAnyH_take (i := 6) (v := ?_) (Array.getElem?_eq_getElem (by decide)) (by kernel_rfl) (by kernel_rfl) (by kernel_rfl) (fun _ _ _ h => h) (Or.inl ⟨by rfl, ?_⟩) (by assumption) ?_; rotate_left; (intro w hSw; (try dsimp only at hSw); go_simp; with_reducible rfl); simp only [Act.put, List.setIfInBounds_toArray, List.set_cons_zero, List.set_cons_succ, List.getElem_toArray, List.getElem_cons_succ, List.getElem_cons_zero])
        | (refine wpAnyH_take (i := 6) (v := undef) (Array.getElem?_eq_getElem (by decide)) (by kernel_rfl) (by kernel_rfl) (by kernel_rfl) (fun _ _ _ h => h) (Or.inr ⟨by rfl, rfl⟩) (by assumption) ?_; simp only [Act.put, List.setIfInBounds_toArray, List.set_cons_zero, List.set_cons_succ, List.getElem_toArray, List.getElem_cons_succ, List.getElem_cons_zero])
        first
        | (refine wpAnyH_take (i := 7) (v := ?_) (Array.getElem?_eq_getElem (by decide)) (by kernel_rfl) (by kernel_rfl) (by kernel_rfl) (fun _ _ _ h => h) (Or.inl ⟨by rfl, ?_⟩) (by assumption) ?_; rotate_left; (intro w hSw; (try dsimp only at hSw); go_simp; done); simp only [Act.put, List.setIfInBounds_toArray, List.set_cons_zero, List.set_cons_succ, List.getElem_toArray, List.getElem_cons_succ, List.getElem_cons_zero])
        | (refine wpAnyH_take (i := 7) (v := ?_) (Array.getElem?_eq_getElem (by decide)) (by kernel_rfl) (by kernel_rfl) (by kernel_rfl) (fun _ _ _ h => h) (Or.inl ⟨by rfl, ?_⟩) (by assumption) ?_; rotate_left; (intro w hSw; (try dsimp only at hSw); go_simp; with_reducible rfl); simp only [Act.put, List.setIfInBounds_toArray, List.set_cons_zero, List.set_cons_succ, List.getElem_toArray, List.getElem_cons_succ, List.getElem_cons_zero])
        | (refine wpAnyH_take (i := 7) (v := undef) (Array.getElem?_eq_getElem (by decide)) (by kernel_rfl) (by kernel_rfl) (by kernel_rfl) (fun _ _ _ h => h) (Or.inr ⟨by rfl, rfl⟩) (by assumption) ?_; simp only [Act.put, List.setIfInBounds_toArray, List.set_cons_zero, List.set_cons_succ, List.getElem_toArray, List.getElem_cons_succ, List.getElem_cons_zero])
        first
        | (refine wpAnyH_take (i := 8) (v := ?_) (Array.getElem?_eq_getElem (by decide)) (by kernel_rfl) (by kernel_rfl) (by kernel_rfl) (fun _ _ _ h => h) (Or.inl ⟨by rfl, ?_⟩) (by assumption) ?_; rotate_left; (intro w hSw; (try dsimp only at hSw); go_simp; done); simp only [Act.put, List.setIfInBounds_toArray, List.set_cons_zero, List.set_cons_succ, List.getElem_toArray, List.getElem_cons_succ, List.getElem_cons_zero])
        | (refine wpAnyH_take (i := 8) (v := ?_) (Array.getElem?_eq_getElem (by decide)) (by kernel_rfl) (by kernel_rfl) (by kernel_rfl) (fun _ _ _ h => h) (Or.inl ⟨by rfl, ?_⟩) (by assumption) ?_; rotate_left; (intro w hSw; (try dsimp only at hSw); go_simp; with_reducible rfl); simp only [Act.put, List.setIfInBounds_toArray, List.set_cons_zero, List.set_cons_succ, List.getElem_toArray, List.getElem_cons_succ, List.getElem_cons_zero])
        | (refine wpAnyH_take (i := 8) (v := undef) (Array.getElem?_eq_getElem (by decide)) (by kernel_rfl) (by kernel_rfl) (by kernel_rfl) (fun _ _ _ h => h) (Or.inr ⟨by rfl, rfl⟩) (by assumption) ?_; simp only [Act.put, List.setIfInBounds_toArray, List.set_cons_zero, List.set_cons_succ, List.getElem_toArray, List.getElem_cons_succ, List.getElem_cons_zero])
        first
        | (refine wpAnyH_take (i := 9) (v := ?_) (Array.getElem?_eq_getElem (by decide)) (by kernel_rfl) (by kernel_rfl) (by kernel_rfl) (fun _ _ _ h => h) (Or.inl ⟨by rfl, ?_⟩) (by assumption) ?_; rotate_left; (intro w hSw; (try dsimp only at hSw); go_simp; done); simp only [Act.put, List.setIfInBounds_toArray, List.set_cons_zero, List.set_cons_succ, List.getElem_toArray, List.getElem_cons_succ, List.getElem_cons_zero])
        | (refine wpAnyH_take (i := 9) (v := ?_) (Array.getElem?_eq_getElem (by decide)) (by kernel_rfl) (by kernel_rfl) (by kernel_rfl) (fun _ _ _ h => h) (Or.inl ⟨by rfl, ?_⟩) (by assumption) ?_; rotate_left; (intro w hSw; (try dsimp only at hSw); go_simp; with_reducible rfl); simp only [Act.put, List.setIfInBounds_toArray, List.set_cons_zero, List.set_cons_succ, List.getElem_toArray, List.getElem_cons_succ, List.getElem_cons_zero])
        | (refine wpAnyH_take (i := 9) (v := undef) (Array.getElem?_eq_getElem (by decide)) (by kernel_rfl) (by kernel_rfl) (by kernel_rfl) (fun _ _ _ h => h) (Or.inr ⟨by rfl, rfl⟩) (by assumption) ?_; simp only [Act.put, List.setIfInBounds_toArray, List.set_cons_zero, List.set_cons_succ, List.getElem_toArray, List.getElem_cons_succ, List.getElem_cons_zero])
        first
        | (refine wpAnyH_take (i := 10) (v := ?_) (Array.getElem?_eq_getElem (by decide)) (by kernel_rfl) (by kernel_rfl) (by kernel_rfl) (fun _ _ _ h => h) (Or.inl ⟨by rfl, ?_⟩) (by assumption) ?_; rotate_left; (intro w hSw; (try dsimp only at hSw); go_simp; done); simp only [Act.put, List.setIfInBounds_toArray, List.set_cons_zero, List.set_cons_succ, List.getElem_toArray, List.getElem_cons_succ, List.getElem_cons_zero])
        | (refine wpAnyH_take (i := 10) (v := ?_) (Array.getElem?_eq_getElem (by decide)) (by kernel_rfl) (by kernel_rfl) (by kernel_rfl) (fun _ _ _ h => h) (Or.inl ⟨by rfl, ?_⟩) (by assumption) ?_; rotate_left; (intro w hSw; (try dsimp only at hSw); go_simp; with_reducible rfl); simp only [Act.put, List.setIfInBounds_toArray, List.set_cons_zero, List.set_cons_succ, List.getElem_toArray, List.getElem_cons_succ, List.getElem_cons_zero])
        | (refine wpAnyH_take (i := 10) (v := undef) (Array.getElem?_eq_getElem (by decide)) (by kernel_rfl) (by kernel_rfl) (by kernel_rfl) (fun _ _ _ h => h) (Or.inr ⟨by rfl, rfl⟩) (by assumption) ?_; simp only [Act.put, List.setIfInBounds_toArray, List.set_cons_zero, List.set_cons_succ, List.getElem_toArray, List.getElem_cons_succ, List.getElem_cons_zero])
        first
        | (refine wpAnyH_take (i := 11) (v := ?_) (Array.getElem?_eq_getElem (by decide)) (by kernel_rfl) (by kernel_rfl) (by kernel_rfl) (fun _ _ _ h => h) (Or.inl ⟨by rfl, ?_⟩) (by assumption) ?_; rotate_left; (intro w hSw; (try dsimp only at hSw); go_simp; done); simp only [Act.put, List.setIfInBounds_toArray, List.set_cons_zero, List.set_cons_succ, List.getElem_toArray, List.getElem_cons_succ, List.getElem_cons_zero])
        | (refine wpAnyH_take (i := 11) (v := ?_) (Array.getElem?_eq_getElem (by decide)) (by kernel_rfl) (by kernel_rfl) (by kernel_rfl) (fun _ _ _ h => h) (Or.inl ⟨by rfl, ?_⟩) (by assumption) ?_; rotate_left; (intro w hSw; (try dsimp only at hSw); go_simp; with_reducible rfl); simp only [Act.put, List.setIfInBounds_toArray, List.set_cons_zero, List.set_cons_succ, List.getElem_toArray, List.getElem_cons_succ, List.getElem_cons_zero])
        | (refine wpAnyH_take (i := 11) (v := undef) (Array.getElem?_eq_getElem (by decide)) (by kernel_rfl) (by kernel_rfl) (by kernel_rfl) (fun _ _ _ h => h) (Or.inr ⟨by rfl, rfl⟩) (by assumption) ?_; simp only [Act.put, List.setIfInBounds_toArray, List.set_cons_zero, List.set_cons_succ, List.getElem_toArray, List.getElem_cons_succ, List.getElem_cons_zero])
        first
        | (refine wpAnyH_take (i := 13) (v := ?_) (Array.getElem?_eq_getElem (by decide)) (by kernel_rfl) (by kernel_rfl) (by kernel_rfl) (fun _ _ _ h => h) (Or.inl ⟨by rfl, ?_⟩) (by assumption) ?_; rotate_left; (intro w hSw; (try dsimp only at hSw); go_simp; done); simp only [Act.put, List.setIfInBounds_toArray, List.set_cons_zero, List.set_cons_succ, List.getElem_toArray, List.getElem_cons_succ, List.getElem_cons_zero])
        | (refine wpAnyH_take (i := 13) (v := ?_) (Array.getElem?_eq_getElem (by decide)) (by kernel_rfl) (by kernel_rfl) (by kernel_rfl) (fun _ _ _ h => h) (Or.inl ⟨by rfl, ?_⟩) (by assumption) ?_; rotate_left; (intro w hSw; (try dsimp only at hSw); go_simp; with_reducible rfl); simp only [Act.put, List.setIfInBounds_toArray, List.set_cons_zero, List.set_cons_succ, List.getElem_toArray, List.getElem_cons_succ, List.getElem_cons_zero])
        | (refine wpAnyH_take (i := 13) (v := undef) (Array.getElem?_eq_getElem (by decide)) (by kernel_rfl) (by kernel_rfl) (by kernel_rfl) (fun _ _ _ h => h) (Or.inr ⟨by rfl, rfl⟩) (by assumption) ?_; simp only [Act.put, List.setIfInBounds_toArray, List.set_cons_zero, List.set_cons_succ, List.getElem_toArray, List.getElem_cons_succ, List.getElem_cons_zero])
        first
        | (refine wpAnyH_take (i := 14) (v := ?_) (Array.getElem?_eq_getElem (by decide)) (by kernel_rfl) (by kernel_rfl) (by kernel_rfl) (fun _ _ _ h => h) (Or.inl ⟨by rfl, ?_⟩) (by assumption) ?_; rotate_left; (intro w hSw; (try dsimp only at hSw); go_simp; done); simp only [Act.put, List.setIfInBounds_toArray, List.set_cons_zero, List.set_cons_succ, List.getElem_toArray, List.getElem_cons_succ, List.getElem_cons_zero])
        | (refine wpAnyH_take (i := 14) (v := ?_) (Array.getElem?_eq_getElem (by decide)) (by kernel_rfl) (by kernel_rfl) (by kernel_rfl) (fun _ _ _ h => h) (Or.inl ⟨by rfl, ?_⟩) (by assumption) ?_; rotate_left; (intro w hSw; (try dsimp only at hSw); go_simp; with_reducible rfl); simp only [Act.put, List.setIfInBounds_toArray, List.set_cons_zero, List.set_cons_succ, List.getElem_toArray, List.getElem_cons_succ, List.getElem_cons_zero])
        | (refine wpAnyH_take (i := 14) (v := undef) (Array.getElem?_eq_getElem (by decide)) (by kernel_rfl) (by kernel_rfl) (by kernel_rfl) (fun _ _ _ h => h) (Or.inr ⟨by rfl, rfl⟩) (by assumption) ?_; simp only [Act.put, List.setIfInBounds_toArray, List.set_cons_zero, List.set_cons_succ, List.getElem_toArray, List.getElem_cons_succ, List.getElem_cons_zero])
        first
        | (refine wpAnyH_take (i := 15) (v := ?_) (Array.getElem?_eq_getElem (by decide)) (by kernel_rfl) (by kernel_rfl) (by kernel_rfl) (fun _ _ _ h => h) (Or.inl ⟨by rfl, ?_⟩) (by assumption) ?_; rotate_left; (intro w hSw; (try dsimp only at hSw); go_simp; done); simp only [Act.put, List.setIfInBounds_toArray, List.set_cons_zero, List.set_cons_succ, List.getElem_toArray, List.getElem_cons_succ, List.getElem_cons_zero])
        | (refine wpAnyH_take (i := 15) (v := ?_) (Array.getElem?_eq_getElem (by decide)) (by kernel_rfl) (by kernel_rfl) (by kernel_rfl) (fun _ _ _ h => h) (Or.inl ⟨by rfl, ?_⟩) (by assumption) ?_; rotate_left; (intro w hSw; (try dsimp only at hSw); go_simp; with_reducible rfl); simp only [Act.put, List.setIfInBounds_toArray, List.set_cons_zero, List.set_cons_succ, List.getElem_toArray, List.getElem_cons_succ, List.getElem_cons_zero])
        | (refine wpAnyH_take (i := 15) (v := undef) (Array.getElem?_eq_getElem (by decide)) (by kernel_rfl) (by kernel_rfl) (by kernel_rfl) (fun _ _ _ h => h) (Or.inr ⟨by rfl, rfl⟩) (by assumption) ?_; simp only [Act.put, List.setIfInBounds_toArray, List.set_cons_zero, List.set_cons_succ, List.getElem_toArray, List.getElem_cons_succ, List.getElem_cons_zero])
        first
        | (refine wpAnyH_take (i := 12) (v := ?_) (Array.getElem?_eq_getElem (by decide)) (by kernel_rfl) (by kernel_rfl) (by kernel_rfl) (fun _ _ _ h => h) (Or.inl ⟨by rfl, ?_⟩) (by assumption) ?_; rotate_left; (intro w hSw; (try dsimp only at hSw); go_simp; done); simp only [Act.put, List.setIfInBounds_toArray, List.set_cons_zero, List.set_cons_succ, List.getElem_toArray, List.getElem_cons_succ, List.getElem_cons_zero])
        | (refine wpAnyH_take (i := 12) (v := ?_) (Array.getElem?_eq_getElem (by decide)) (by kernel_rfl) (by kernel_rfl) (by kernel_rfl) (fun _ _ _ h => h) (Or.inl ⟨by rfl, ?_⟩) (by assumption) ?_; rotate_left; (intro w hSw; (try dsimp only at hSw); go_simp; with_reducible rfl); simp only [Act.put, List.setIfInBounds_toArray, List.set_cons_zero, List.set_cons_succ, List.getElem_toArray, List.getElem_cons_succ, List.getElem_cons_zero])
        | (refine wpAnyH_take (i := 12) (v := undef) (Array.getElem?_eq_getElem (by decide)) (by kernel_rfl) (by kernel_rfl) (by kernel_rfl) (fun _ _ _ h => h) (Or.inr ⟨by rfl, rfl⟩) (by assumption) ?_; simp only [Act.put, List.setIfInBounds_toArray, List.set_cons_zero, List.set_cons_succ, List.getElem_toArray, List.getElem_cons_succ, List.getElem_cons_zero])
        first
        | (refine wpAnyH_take (i := 16) (v := ?_) (Array.getElem?_eq_getElem (by decide)) (by kernel_rfl) (by kernel_rfl) (by kernel_rfl) (fun _ _ _ h => h) (Or.inl ⟨by rfl, ?_⟩) (by assumption) ?_; rotate_left; (intro w hSw; (try dsimp only at hSw); go_simp; done); simp only [Act.put, List.setIfInBounds_toArray, List.set_cons_zero, List.set_cons_succ, List.getElem_toArray, List.getElem_cons_succ, List.getElem_cons_zero])
        | (refine wpAnyH_take (i := 16) (v := ?_) (Array.getElem?_eq_getElem (by decide)) (by kernel_rfl) (by kernel_rfl) (by kernel_rfl) (fun _ _ _ h => h) (Or.inl ⟨by rfl, ?_⟩) (by assumption) ?_; rotate_left; (intro w hSw; (try dsimp only at hSw); go_simp; with_reducible rfl); simp only [Act.put, List.setIfInBounds_toArray, List.set_cons_zero, List.set_cons_succ, List.getElem_toArray, List.getElem_cons_succ, List.getElem_cons_zero])
        | (refine wpAnyH_take (i := 16) (v := undef) (Array.getElem?_eq_getElem (by decide)) (by kernel_rfl) (by kernel_rfl) (by kernel_rfl) (fun _ _ _ h => h) (Or.inr ⟨by rfl, rfl⟩) (by assumption) ?_; simp only [Act.put, List.setIfInBounds_toArray, List.set_cons_zero, List.set_cons_succ, List.getElem_toArray, List.getElem_cons_succ, List.getElem_cons_zero])
        first
        | (refine wpAnyH_take (i := 17) (v := ?_) (Array.getElem?_eq_getElem (by decide)) (by kernel_rfl) (by kernel_rfl) (by kernel_rfl) (fun _ _ _ h => h) (Or.inl ⟨by rfl, ?_⟩) (by assumption) ?_; rotate_left; (intro w hSw; (try dsimp only at hSw); go_simp; done); simp only [Act.put, List.setIfInBounds_toArray, List.set_cons_zero, List.set_cons_succ, List.getElem_toArray, List.getElem_cons_succ, List.getElem_cons_zero])
        | (refine wpAnyH_take (i := 17) (v := ?_) (Array.getElem?_eq_getElem (by decide)) (by kernel_rfl) (by kernel_rfl) (by kernel_rfl) (fun _ _ _ h => h) (Or.inl ⟨by rfl, ?_⟩) (by assumption) ?_; rotate_left; (intro w hSw; (try dsimp only at hSw); go_simp; with_reducible rfl); simp only [Act.put, List.setIfInBounds_toArray, List.set_cons_zero, List.set_cons_succ, List.getElem_toArray, List.getElem_cons_succ, List.getElem_cons_zero])
        | (refine wpAnyH_take (i := 17) (v := undef) (Array.getElem?_eq_getElem (by decide)) (by kernel_rfl) (by kernel_rfl) (by kernel_rfl) (fun _ _ _ h => h) (Or.inr ⟨by rfl, rfl⟩) (by assumption) ?_; simp only [Act.put, List.setIfInBounds_toArray, List.set_cons_zero, List.set_cons_succ, List.getElem_toArray, List.getElem_cons_succ, List.getElem_cons_zero])
        first
        | (refine wpAnyH_take (i := 18) (v := ?_) (Array.getElem?_eq_getElem (by decide)) (by kernel_rfl) (by kernel_rfl) (by kernel_rfl) (fun _ _ _ h => h) (Or.inl ⟨by rfl, ?_⟩) (by assumption) ?_; rotate_left; (intro w hSw; (try dsimp only at hSw); go_simp; done); simp only [Act.put, List.setIfInBounds_toArray, List.set_cons_zero, List.set_cons_succ, List.getElem_toArray, List.getElem_cons_succ, List.getElem_cons_zero])
        | (refine wpAnyH_take (i := 18) (v := ?_) (Array.getElem?_eq_getElem (by decide)) (by kernel_rfl) (by kernel_rfl) (by kernel_rfl) (fun _ _ _ h => h) (Or.inl ⟨by rfl, ?_⟩) (by assumption) ?_; rotate_left; (intro w hSw; (try dsimp only at hSw); go_simp; with_reducible rfl); simp only [Act.put, List.setIfInBounds_toArray, List.set_cons_zero, List.set_cons_succ, List.getElem_toArray, List.getElem_cons_succ, List.getElem_cons_zero])
        | (refine wpAnyH_take (i := 18) (v := undef) (Array.getElem?_eq_getElem (by decide)) (by kernel_rfl) (by kernel_rfl) (by kernel_rfl) (fun _ _ _ h => h) (Or.inr ⟨by rfl, rfl⟩) (by assumption) ?_; simp only [Act.put, List.setIfInBounds_toArray, List.set_cons_zero, List.set_cons_succ, List.getElem_toArray, List.getElem_cons_succ, List.getElem_cons_zero])
        refine wpAnyH_done (by kernel_rfl) ?_ _
        have hkv : Kept w6 v1 := And.left (by assumption)
        have hk0v : Kept w v1 := Kept.trans hk03 (Kept.trans hk36 hkv)
        have hk3v : Kept w3 v1 := Kept.trans hk36 hkv
        have hzv : w.heap.size + 1 < v1.heap.size := Nat.lt_of_lt_of_le hz3 hk3v.size
        clear d0 d1 d2 hz6 hzc6 hzc60 a0 a1 a2 b0 hkv
        generalize v1 = v at *
        have hzv0 : w.heap.size < v.heap.size := by omega
        have a0 := (hk3v.cell _ _ (by omega)).trans (HB.out 0 _ rfl)
        have a1 := (hk3v.cell _ _ (by omega)).trans (HB.out 1 _ rfl)
        have a2 := (hk3v.cell _ _ (by omega)).trans (HB.out 2 _ rfl)
        by_cases hm : M.length = 0
        · have hm2 : ((M.length : Int) == 0) = true := by rw [hm]; rfl
          go_wp2
          go_ret
          exact ⟨rfl, hk0v⟩
        · have hm2 : ((M.length : Int) == 0) = false := beq_false_of_ne (by omega)
          have hm3 : ¬ (M.length : Int) = 0 := by omega
          go_wp2_with fail
          obtain ⟨kn, hkn⟩ : ∃ kn : Nat, n % (M.length : Int) = kn := ⟨(n % (M.length : Int)).toNat, by have := Int.emod_nonneg n hm3; omega⟩
          have hkl : kn < M.length := by have := Int.emod_lt_of_pos n (show 0 < (M.length : Int) by omega); omega
          rw [hkn]
          go_at_call 20
          refine (KP.out _ hk0v).mono ?_
          rintro e w8 ⟨hk8, o3, c3, o4, c4, rfl, r3, r4⟩
          obtain ⟨b', off', rfl, _⟩ := HM.out kn hkl
          obtain ⟨g4, cap4, hv4, hb4, hl4⟩ := r4.form (by omega)
          injection hv4 with hv4 _ hv5
          subst hv4 hv5
          have hcap := owns_cap r4 rfl
          have hk08 := hk0v.trans hk8
          have hk38 := hk3v.trans hk8
          clear a0 a1 a2 hzv hzv0
          have RE := Lib.hid (recs_of_owns' r4)
          have RL3 := Lib.hid (recs_of_owns' r3)
          clear r3 r4 hk0v hk3v
          have hz8 : w.heap.size + 1 < w8.heap.size := Nat.lt_of_lt_of_le hz3 hk38.size
          have hz80 : w.heap.size < w8.heap.size := by omega
          have a0 := (hk38.cell _ _ (by omega)).trans (HB.out 0 _ rfl)
          have a1 := (hk38.cell _ _ (by omega)).trans (HB.out 1 _ rfl)
          have a2 := (hk38.cell _ _ (by omega)).trans (HB.out 2 _ rfl)
          have P1 : Hid ((recs (M.take kn)).length = kn * 9) := (show _ = _ from by rw [recs_len, List.length_take, Nat.min_eq_left (by omega)])
          have P2 := Lib.hid (fun w' (k : Kept w8 w') => recs_cells ((RE.out.take kn).kept k))
          have P3 : Hid ((recs (M.drop (kn + 1))).length = (M.length - (kn + 1)) * 9) := (show _ = _ from by rw [recs_len, List.length_drop])
          have P4 := Lib.hid (fun w' (k : Kept w8 w') => recs_cells ((HM.out.drop (kn + 1)).kept (hk08.trans k)))
          have hkb : (kn : Int) < 31 := by omega
          have hk00 : (0 : Int) ≤ (kn : Int) := by omega
          have hkw : IntKind.i64.wrap ((kn : Int) + 1) = (kn : Int) + 1 := wrap_small _ (by omega) (by omega)
          have hkt : ((kn : Int) + 1).toNat = kn + 1 := by omega
          have hk01 : (0 : Int) ≤ (kn : Int) + 1 := by omega
          have hkc : (kn : Int) ≤ (c4 : Int) := by omega
          have hkm : (kn : Int) + 1 ≤ (M.length : Int) := by omega
          go_wp2_with fail
          obtain ⟨W9, hW9⟩ : ∃ x, x = w8.alloc (.cells #[.int .i64 f, .slice o3 L.length c3, .slice (some ⟨g4, 0, none⟩) M.length c4] 25) := ⟨_, rfl⟩
          rw [← hW9]
          have hk9 : Kept w8 W9 := by rw [hW9]; exact (Kept.refl w8).alloc _
          have hz9 : w8.heap.size < W9.heap.size := by rw [hW9]; simp
          have y0 : W9.cell? ⟨w8.heap.size, 0, none⟩ = some (.int .i64 f) := by rw [hW9, cell_here]; rfl
          have y1 : W9.cell? ⟨w8.heap.size, 1, none⟩ = some (.slice o3 L.length c3) := by rw [hW9, cell_here]; rfl
          have y2 : W9.cell? ⟨w8.heap.size, 2, none⟩ = some (.slice (some ⟨g4, 0, none⟩) M.length c4) := by rw [hW9, cell_here]; rfl
          have f0 : W9.frozen? ⟨w8.heap.size, 0, none⟩ = false := by rw [hW9]; simp
          have f1 : W9.frozen? ⟨w8.heap.size, 1, none⟩ = false := by rw [hW9]; simp
          have f2 : W9.frozen? ⟨w8.heap.size, 2, none⟩ = false := by rw [hW9]; simp
          have v0 := (hk9.cell _ _ hz80).trans a0
          have v1 := (hk9.cell _ _ hz80).trans a1
          have v2 := (hk9.cell _ _ hz80).trans a2
          clear hW9 a0 a1 a2
          by_cases hlast : kn + 1 = M.length
          · have hz0 : M.length - (kn + 1) = 0 := by omega
            go_region_law (refine step_append_zero (by rfl) _ _ _ (by rfl) 31 iF Try.underlying23 hiF g4 0 kn kn (by rfl) (Nat.le_refl _) _ _ (by rfl) ?_)
            all_goals (
              go_wp2_with fail
              all_goals (
                obtain ⟨X, hX⟩ : ∃ x, x = (W9.setCell ⟨w8.heap.size, 2, none⟩ (.slice (some ⟨g4, 0, none⟩) kn kn)).drew := ⟨_, rfl⟩
                rw [← hX]
                have hkX : Kept w8 X := by rw [hX]; exact (Kept.setCell hk9 (Nat.le_refl _) _).drew
                have d0 : X.cell? ⟨w8.heap.size, 0, none⟩ = some (.int .i64 f) := by rw [hX]; exact (World.cell?_setCell_far2 (by decide)).trans y0
                have d1 : X.cell? ⟨w8.heap.size, 1, none⟩ = some (.slice o3 L.length c3) := by rw [hX]; exact (World.cell?_setCell_far2 (by decide)).trans y1
                have d2 : X.cell? ⟨w8.heap.size, 2, none⟩ = some (.slice (some ⟨g4, 0, none⟩) kn kn) := by rw [hX]; exact World.cell?_setCell_same' _ _ _ (by rw [y2]; rfl)
                have hzX8 : w8.heap.size < X.heap.size := by rw [hX]; show _ < (W9.setCell _ _).heap.size; rw [World.size_setCell]; exact hz9
                clear hX
                have hEl : (M.take kn ++ M.drop (kn + 1)).length = kn := by rw [List.length_append, List.length_take, List.length_drop]; omega
                have hRF : IsRecs X (some ⟨g4, 0, none⟩) (M.take kn ++ M.drop (kn + 1)) := by
                  rw [List.drop_eq_nil_of_le (by omega), List.append_nil]
                  exact (RE.out.take kn).kept hkX
                have hk3X : Kept w3 X := hk38.trans hkX
                have hk0X : Kept w X := hk08.trans hkX
                have hzX3 : w.heap.size + 1 < X.heap.size := Nat.lt_of_lt_of_le hz3 hk3X.size
                have hzX0 : w.heap.size < X.heap.size := by omega
                have hzX : w8.heap.size < X.heap.size := hzX8
                have a0 := (hk3X.cell _ _ (by omega)).trans (HB.out 0 _ rfl)
                have a1 := (hk3X.cell _ _ (by omega)).trans (HB.out 1 _ rfl)
                have a2 := (hk3X.cell _ _ (by omega)).trans (HB.out 2 _ rfl)
                obtain ⟨bb, ob, eb, i0, _⟩ := (HM.out.kept hk0X).cells kn hkl
                injection eb with eb
                injection eb with eb1 eb2 _
                subst eb1 eb2
                have hzi := lt_cellL i0
                obtain ⟨gg1, gg2⟩ := falls f L M kn hkl HC.out
                have okE : ∀ r ∈ M.take kn ++ M.drop (kn + 1), r.ok := fun r hr => by
                  rw [List.mem_append] at hr
                  rcases hr with hr | hr
                  · exact HkM.out r (List.mem_of_mem_take hr)
                  · exact HkM.out r (List.mem_of_mem_drop hr)
                have KE := Lib.hid (fun w' (k : Kept X w') => CCheck_any f o3 (some ⟨g4, 0, none⟩) c3 kn L (M.take kn ++ M.drop (kn + 1)) w' (RL3.out.kept (hkX.trans k)) (hRF.kept k) HkL.out okE)
                have KG := Lib.hid (fun w' (k : Kept X w') => Find_any f o3 (some ⟨g4, 0, none⟩) c3 kn L (M.take kn ++ M.drop (kn + 1)) (M[kn]!).s w' (hRF.kept k) (by rw [hEl]; omega))
                rw [gg1, chV_t, hEl] at KE
                rw [gg2, hEl] at KG
                generalize (M[kn]!).s = id at *
                clear okE gg1 gg2 hRF RL3 RE HM HL HkM HkL HC KP KI HB HE HF HO P1 P2 P3 P4 hkX hk3X
                clear hk8 hk9 hz9 y0 y1 y2 f0 f1 f2 v0 v1 v2
                go_wp2_with fail
                refine wp_region_held_drew (S := fun w' => Kept (X) w' ∧ (∀ b o, b < (X).heap.size → w'.cell? ⟨b, o, none⟩ = (X).cell? ⟨b, o, none⟩)) (by kernel_rfl) (held_of (Kept.drew (Kept.refl _))) (fun hHeld => ?_)
                first
                | (refine wpAnyH_take (i := 0) (v := ?_) (Array.getElem?_eq_getElem (by decide)) (by kernel_rfl) (by kernel_rfl) (by kernel_rfl) (fun _ _ _ h => h) (Or.inl ⟨by rfl, ?_⟩) (by assumption) ?_; rotate_left; (intro w hSw; (try dsimp only at hSw); go_simp; done); simp only [Act.put, List.setIfInBounds_toArray, List.set_cons_zero, List.set_cons_succ, List.getElem_toArray, List.getElem_cons_succ, List.getElem_cons_zero])
                | (refine wpAnyH_take (i := 0) (v := ?_) (Array.getElem?_eq_getElem (by decide)) (by kernel_rfl) (by kernel_rfl) (by kernel_rfl) (fun _ _ _ h => h) (Or.inl ⟨by rfl, ?_⟩) (by assumption) ?_; rotate_left; (intro w hSw; (try dsimp only at hSw); go_simp; with_reducible rfl); simp only [Act.put, List.setIfInBounds_toArray, List.set_cons_zero, List.set_cons_succ, List.getElem_toArray, List.getElem_cons_succ, List.getElem_cons_zero])
                | (refine wpAnyH_take (i := 0) (v := undef) (Array.getElem?_eq_getElem (by decide)) (by kernel_rfl) (by kernel_rfl) (by kernel_rfl) (fun _ _ _ h => h) (Or.inr ⟨by rfl, rfl⟩) (by assumption) ?_; simp only [Act.put, List.setIfInBounds_toArray, List.set_cons_zero, List.set_cons_succ, List.getElem_toArray, List.getElem_cons_succ, List.getElem_cons_zero])
                refine wpAnyH_ready (rs := [1]) (by kernel_rfl) (by simp) ?_
                refine AllReadyH.cons rfl (fun K hK => ?_) AllReadyH.nil
                go_simp
                go_at_call 14
                (with_reducible refine (KE.out _ (And.left (by assumption))).mono ?_)
                rintro e v1 ⟨rfl, hq1⟩
                refine hK.out _ _ (held_of (Kept.trans (And.left (by assumption)) (by assumption))) (fun hHeld1 => ?_)
                clear hK K
                try simp only [Act.put, List.setIfInBounds_toArray, List.set_cons_zero, List.set_cons_succ, List.getElem_toArray, List.getElem_cons_succ, List.getElem_cons_zero]
                first
                | (refine wpAnyH_take (i := 2) (v := ?_) (Array.getElem?_eq_getElem (by decide)) (by kernel_rfl) (by kernel_rfl) (by kernel_rfl) (fun _ _ _ h => h) (Or.inl ⟨by rfl, ?_⟩) (by assumption) ?_; rotate_left; (intro w hSw; (try dsimp only at hSw); go_simp; done); simp only [Act.put, List.setIfInBounds_toArray, List.set_cons_zero, List.set_cons_succ, List.getElem_toArray, List.getElem_cons_succ, List.getElem_cons_zero])
                | (refine wpAnyH_take (i := 2) (v := ?_) (Array.getElem?_eq_getElem (by decide)) (by kernel_rfl) (by kernel_rfl) (by kernel_rfl) (fun _ _ _ h => h) (Or.inl ⟨by rfl, ?_⟩) (by assumption) ?_; rotate_left; (intro w hSw; (try dsimp only at hSw); go_simp; with_reducible rfl); simp only [Act.put, List.setIfInBounds_toArray, List.set_cons_zero, List.set_cons_succ, List.getElem_toArray, List.getElem_cons_succ, List.getElem_cons_zero])
                | (refine wpAnyH_take (i := 2) (v := undef) (Array.getElem?_eq_getElem (by decide)) (by kernel_rfl) (by kernel_rfl) (by kernel_rfl) (fun _ _ _ h => h) (Or.inr ⟨by rfl, rfl⟩) (by assumption) ?_; simp only [Act.put, List.setIfInBounds_toArray, List.set_cons_zero, List.set_cons_succ, List.getElem_toArray, List.getElem_cons_succ, List.getElem_cons_zero])
                first
                | (refine wpAnyH_take (i := 3) (v := ?_) (Array.getElem?_eq_getElem (by decide)) (by kernel_rfl) (by kernel_rfl) (by kernel_rfl) (fun _ _ _ h => h) (Or.inl ⟨by rfl, ?_⟩) (by assumption) ?_; rotate_left; (intro w hSw; (try dsimp only at hSw); go_simp; done); simp only [Act.put, List.setIfInBounds_toArray, List.set_cons_zero, List.set_cons_succ, List.getElem_toArray, List.getElem_cons_succ, List.getElem_cons_zero])
                | (refine wpAnyH_take (i := 3) (v := ?_) (Array.getElem?_eq_getElem (by decide)) (by kernel_rfl) (by kernel_rfl) (by kernel_rfl) (fun _ _ _ h => h) (Or.inl ⟨by rfl, ?_⟩) (by assumption) ?_; rotate_left; (intro w hSw; (try dsimp only at hSw); go_simp; with_reducible rfl); simp only [Act.put, List.setIfInBounds_toArray, List.set_cons_zero, List.set_cons_succ, List.getElem_toArray, List.getElem_cons_succ, List.getElem_cons_zero])
                | (refine wpAnyH_take (i := 3) (v := undef) (Array.getElem?_eq_getElem (by decide)) (by kernel_rfl) (by kernel_rfl) (by kernel_rfl) (fun _ _ _ h => h) (Or.inr ⟨by rfl, rfl⟩) (by assumption) ?_; simp only [Act.put, List.setIfInBounds_toArray, List.set_cons_zero, List.set_cons_succ, List.getElem_toArray, List.getElem_cons_succ, List.getElem_cons_zero])
                first
                | (refine wpAnyH_take (i := 4) (v := ?_) (Array.getElem?_eq_getElem (by decide)) (by kernel_rfl) (by kernel_rfl) (by kernel_rfl) (fun _ _ _ h => h) (Or.inl ⟨by rfl, ?_⟩) (by assumption) ?_; rotate_left; (intro w hSw; (try dsimp only at hSw); go_simp; done); simp only [Act.put, List.setIfInBounds_toArray, List.set_cons_zero, List.set_cons_succ, List.getElem_toArray, List.getElem_cons_succ, List.getElem_cons_zero])
                | (refine wpAnyH_take (i := 4) (v := ?_) (Array.getElem?_eq_getElem (by decide)) (by kernel_rfl) (by kernel_rfl) (by kernel_rfl) (fun _ _ _ h => h) (Or.inl ⟨by rfl, ?_⟩) (by assumption) ?_; rotate_left; (intro w hSw; (try dsimp only at hSw); go_simp; with_reducible rfl); simp only [Act.put, List.setIfInBounds_toArray, List.set_cons_zero, List.set_cons_succ, List.getElem_toArray, List.getElem_cons_succ, List.getElem_cons_zero])
                | (refine wpAnyH_take (i := 4) (v := undef) (Array.getElem?_eq_getElem (by decide)) (by kernel_rfl) (by kernel_rfl) (by kernel_rfl) (fun _ _ _ h => h) (Or.inr ⟨by rfl, rfl⟩) (by assumption) ?_; simp only [Act.put, List.setIfInBounds_toArray, List.set_cons_zero, List.set_cons_succ, List.getElem_toArray, List.getElem_cons_succ, List.getElem_cons_zero])
                first
                | (refine wpAnyH_take (i := 5) (v := ?_) (Array.getElem?_eq_getElem (by decide)) (by kernel_rfl) (by kernel_rfl) (by kernel_rfl) (fun _ _ _ h => h) (Or.inl ⟨by rfl, ?_⟩) (by assumption) ?_; rotate_left; (intro w hSw; (try dsimp only at hSw); go_simp; done); simp only [Act.put, List.setIfInBounds_toArray, List.set_cons_zero, List.set_cons_succ, List.getElem_toArray, List.getElem_cons_succ, List.getElem_cons_zero])
                | (refine wpAnyH_take (i := 5) (v := ?_) (Array.getElem?_eq_getElem (by decide)) (by kernel_rfl) (by kernel_rfl) (by kernel_rfl) (fun _ _ _ h => h) (Or.inl ⟨by rfl, ?_⟩) (by assumption) ?_; rotate_left; (intro w hSw; (try dsimp only at hSw); go_simp; with_reducible rfl); simp only [Act.put, List.setIfInBounds_toArray, List.set_cons_zero, List.set_cons_succ, List.getElem_toArray, List.getElem_cons_succ, List.getElem_cons_zero])
                | (refine wpAnyH_take (i := 5) (v := undef) (Array.getElem?_eq_getElem (by decide)) (by kernel_rfl) (by kernel_rfl) (by kernel_rfl) (fun _ _ _ h => h) (Or.inr ⟨by rfl, rfl⟩) (by assumption) ?_; simp only [Act.put, List.setIfInBounds_toArray, List.set_cons_zero, List.set_cons_succ, List.getElem_toArray, List.getElem_cons_succ, List.getElem_cons_zero])
                first
                | (refine wpAnyH_take (i := 6) (v := ?_) (Array.getElem?_eq_getElem (by decide)) (by kernel_rfl) (by kernel_rfl) (by kernel_rfl) (fun _ _ _ h => h) (Or.inl ⟨by rfl, ?_⟩) (by assumption) ?_; rotate_left; (intro w hSw; (try dsimp only at hSw); go_simp; done); simp only [Act.put, List.setIfInBounds_toArray, List.set_cons_zero, List.set_cons_succ, List.getElem_toArray, List.getElem_cons_succ, List.getElem_cons_zero])
                | (refine wpAnyH_take (i := 6) (v := ?_) (Array.getElem?_eq_getElem (by decide)) (by kernel_rfl) (by kernel_rfl) (by kernel_rfl) (fun _ _ _ h => h) (Or.inl ⟨by rfl, ?_⟩) (by assumption) ?_; rotate_left; (intro w hSw; (try dsimp only at hSw); go_simp; with_reducible rfl); simp only [Act.put, List.setIfInBounds_toArray, List.set_cons_zero, List.set_cons_succ, List.getElem_toArray, List.getElem_cons_succ, List.getElem_cons_zero])
                | (refine wpAnyH_take (i := 6) (v := undef) (Array.getElem?_eq_getElem (by decide)) (by kernel_rfl) (by kernel_rfl) (by kernel_rfl) (fun _ _ _ h => h) (Or.inr ⟨by rfl, rfl⟩) (by assumption) ?_; simp only [Act.put, List.setIfInBounds_toArray, List.set_cons_zero, List.set_cons_succ, List.getElem_toArray, List.getElem_cons_succ, List.getElem_cons_zero])
                first
                | (refine wpAnyH_take (i := 7) (v := ?_) (Array.getElem?_eq_getElem (by decide)) (by kernel_rfl) (by kernel_rfl) (by kernel_rfl) (fun _ _ _ h => h) (Or.inl ⟨by rfl, ?_⟩) (by assumption) ?_; rotate_left; (intro w hSw; (try dsimp only at hSw); go_simp; done); simp only [Act.put, List.setIfInBounds_toArray, List.set_cons_zero, List.set_cons_succ, List.getElem_toArray, List.getElem_cons_succ, List.getElem_cons_zero])
                | (refine wpAnyH_take (i := 7) (v := ?_) (Array.getElem?_eq_getElem (by decide)) (by kernel_rfl) (by kernel_rfl) (by kernel_rfl) (fun _ _ _ h => h) (Or.inl ⟨by rfl, ?_⟩) (by assumption) ?_; rotate_left; (intro w hSw; (try dsimp only at hSw); go_simp; with_reducible rfl); simp only [Act.put, List.setIfInBounds_toArray, List.set_cons_zero, List.set_cons_succ, List.getElem_toArray, List.getElem_cons_succ, List.getElem_cons_zero])
                | (refine wpAnyH_take (i := 7) (v := undef) (Array.getElem?_eq_getElem (by decide)) (by kernel_rfl) (by kernel_rfl) (by kernel_rfl) (fun _ _ _ h => h) (Or.inr ⟨by rfl, rfl⟩) (by assumption) ?_; simp only [Act.put, List.setIfInBounds_toArray, List.set_cons_zero, List.set_cons_succ, List.getElem_toArray, List.getElem_cons_succ, List.getElem_cons_zero])
                first
                | (refine wpAnyH_take (i := 8) (v := ?_) (Array.getElem?_eq_getElem (by decide)) (by kernel_rfl) (by kernel_rfl) (by kernel_rfl) (fun _ _ _ h => h) (Or.inl ⟨by rfl, ?_⟩) (by assumption) ?_; rotate_left; (intro w hSw; (try dsimp only at hSw); go_simp; done); simp only [Act.put, List.setIfInBounds_toArray, List.set_cons_zero, List.set_cons_succ, List.getElem_toArray, List.getElem_cons_succ, List.getElem_cons_zero])
                | (refine wpAnyH_take (i := 8) (v := ?_) (Array.getElem?_eq_getElem (by decide)) (by kernel_rfl) (by kernel_rfl) (by kernel_rfl) (fun _ _ _ h => h) (Or.inl ⟨by rfl, ?_⟩) (by assumption) ?_; rotate_left; (intro w hSw; (try dsimp only at hSw); go_simp; with_reducible rfl); simp only [Act.put, List.setIfInBounds_toArray, List.set_cons_zero, List.set_cons_succ, List.getElem_toArray, List.getElem_cons_succ, List.getElem_cons_zero])
                | (refine wpAnyH_take (i := 8) (v := undef) (Array.getElem?_eq_getElem (by decide)) (by kernel_rfl) (by kernel_rfl) (by kernel_rfl) (fun _ _ _ h => h) (Or.inr ⟨by rfl, rfl⟩) (by assumption) ?_; simp only [Act.put, List.setIfInBounds_toArray, List.set_cons_zero, List.set_cons_succ, List.getElem_toArray, List.getElem_cons_succ, List.getElem_cons_zero])
                first
                | (refine wpAnyH_take (i := 9) (v := ?_) (Array.getElem?_eq_getElem (by decide)) (by kernel_rfl) (by kernel_rfl) (by kernel_rfl) (fun _ _ _ h => h) (Or.inl ⟨by rfl, ?_⟩) (by assumption) ?_; rotate_left; (intro w hSw; (try dsimp only at hSw); go_simp; done); simp only [Act.put, List.setIfInBounds_toArray, List.set_cons_zero, List.set_cons_succ, List.getElem_toArray, List.getElem_cons_succ, List.getElem_cons_zero])
                | (refine wpAnyH_take (i := 9) (v := ?_) (Array.getElem?_eq_getElem (by decide)) (by kernel_rfl) (by kernel_rfl) (by kernel_rfl) (fun _ _ _ h => h) (Or.inl ⟨by rfl, ?_⟩) (by assumption) ?_; rotate_left; (intro w hSw; (try dsimp only at hSw); go_simp; with_reducible rfl); simp only [Act.put, List.setIfInBounds_toArray, List.set_cons_zero, List.set_cons_succ, List.getElem_toArray, List.getElem_cons_succ, List.getElem_cons_zero])
                | (refine wpAnyH_take (i := 9) (v := undef) (Array.getElem?_eq_getElem (by decide)) (by kernel_rfl) (by kernel_rfl) (by kernel_rfl) (fun _ _ _ h => h) (Or.inr ⟨by rfl, rfl⟩) (by assumption) ?_; simp only [Act.put, List.setIfInBounds_toArray, List.set_cons_zero, List.set_cons_succ, List.getElem_toArray, List.getElem_cons_succ, List.getElem_cons_zero])
                first
                | (refine wpAnyH_take (i := 10) (v := ?_) (Array.getElem?_eq_getElem (by decide)) (by kernel_rfl) (by kernel_rfl) (by kernel_rfl) (fun _ _ _ h => h) (Or.inl ⟨by rfl, ?_⟩) (by assumption) ?_; rotate_left; (intro w hSw; (try dsimp only at hSw); go_simp; done); simp only [Act.put, List.setIfInBounds_toArray, List.set_cons_zero, List.set_cons_succ, List.getElem_toArray, List.getElem_cons_succ, List.getElem_cons_zero])
                | (refine wpAnyH_take (i := 10) (v := ?_) (Array.getElem?_eq_getElem (by decide)) (by kernel_rfl) (by kernel_rfl) (by kernel_rfl) (fun _ _ _ h => h) (Or.inl ⟨by rfl, ?_⟩) (by assumption) ?_; rotate_left; (intro w hSw; (try dsimp only at hSw); go_simp; with_reducible rfl); simp only [Act.put, List.setIfInBounds_toArray, List.set_cons_zero, List.set_cons_succ, List.getElem_toArray, List.getElem_cons_succ, List.getElem_cons_zero])
                | (refine wpAnyH_take (i := 10) (v := undef) (Array.getElem?_eq_getElem (by decide)) (by kernel_rfl) (by kernel_rfl) (by kernel_rfl) (fun _ _ _ h => h) (Or.inr ⟨by rfl, rfl⟩) (by assumption) ?_; simp only [Act.put, List.setIfInBounds_toArray, List.set_cons_zero, List.set_cons_succ, List.getElem_toArray, List.getElem_cons_succ, List.getElem_cons_zero])
                refine wpAnyH_ready (rs := [11]) (by kernel_rfl) (by simp) ?_
                refine AllReadyH.cons rfl (fun K hK => ?_) AllReadyH.nil
                go_simp
                go_at_call 16
                (with_reducible refine (KG.out _ (And.left (by assumption))).mono ?_)
                rintro e v11 ⟨rfl, hq11⟩
                refine hK.out _ _ (held_of (Kept.trans (And.left (by assumption)) (by assumption))) (fun hHeld11 => ?_)
                clear hK K
                try simp only [Act.put, List.setIfInBounds_toArray, List.set_cons_zero, List.set_cons_succ, List.getElem_toArray, List.getElem_cons_succ, List.getElem_cons_zero]
                first
                | (refine wpAnyH_take (i := 12) (v := ?_) (Array.getElem?_eq_getElem (by decide)) (by kernel_rfl) (by kernel_rfl) (by kernel_rfl) (fun _ _ _ h => h) (Or.inl ⟨by rfl, ?_⟩) (by assumption) ?_; rotate_left; (intro w hSw; (try dsimp only at hSw); go_simp; done); simp only [Act.put, List.setIfInBounds_toArray, List.set_cons_zero, List.set_cons_succ, List.getElem_toArray, List.getElem_cons_succ, List.getElem_cons_zero])
                | (refine wpAnyH_take (i := 12) (v := ?_) (Array.getElem?_eq_getElem (by decide)) (by kernel_rfl) (by kernel_rfl) (by kernel_rfl) (fun _ _ _ h => h) (Or.inl ⟨by rfl, ?_⟩) (by assumption) ?_; rotate_left; (intro w hSw; (try dsimp only at hSw); go_simp; with_reducible rfl); simp only [Act.put, List.setIfInBounds_toArray, List.set_cons_zero, List.set_cons_succ, List.getElem_toArray, List.getElem_cons_succ, List.getElem_cons_zero])
                | (refine wpAnyH_take (i := 12) (v := undef) (Array.getElem?_eq_getElem (by decide)) (by kernel_rfl) (by kernel_rfl) (by kernel_rfl) (fun _ _ _ h => h) (Or.inr ⟨by rfl, rfl⟩) (by assumption) ?_; simp only [Act.put, List.setIfInBounds_toArray, List.set_cons_zero, List.set_cons_succ, List.getElem_toArray, List.getElem_cons_succ, List.getElem_cons_zero])
                first
                | (refine wpAnyH_take (i := 13) (v := ?_) (Array.getElem?_eq_getElem (by decide)) (by kernel_rfl) (by kernel_rfl) (by kernel_rfl) (fun _ _ _ h => h) (Or.inl ⟨by rfl, ?_⟩) (by assumption) ?_; rotate_left; (intro w hSw; (try dsimp only at hSw); go_simp; done); simp only [Act.put, List.setIfInBounds_toArray, List.set_cons_zero, List.set_cons_succ, List.getElem_toArray, List.getElem_cons_succ, List.getElem_cons_zero])
                | (refine wpAnyH_take (i := 13) (v := ?_) (Array.getElem?_eq_getElem (by decide)) (by kernel_rfl) (by kernel_rfl) (by kernel_rfl) (fun _ _ _ h => h) (Or.inl ⟨by rfl, ?_⟩) (by assumption) ?_; rotate_left; (intro w hSw; (try dsimp only at hSw); go_simp; with_reducible rfl); simp only [Act.put, List.setIfInBounds_toArray, List.set_cons_zero, List.set_cons_succ, List.getElem_toArray, List.getElem_cons_succ, List.getElem_cons_zero])
                | (refine wpAnyH_take (i := 13) (v := undef) (Array.getElem?_eq_getElem (by decide)) (by kernel_rfl) (by kernel_rfl) (by kernel_rfl) (fun _ _ _ h => h) (Or.inr ⟨by rfl, rfl⟩) (by assumption) ?_; simp only [Act.put, List.setIfInBounds_toArray, List.set_cons_zero, List.set_cons_succ, List.getElem_toArray, List.getElem_cons_succ, List.getElem_cons_zero])
                first
                | (refine wpAnyH_take (i := 14) (v := ?_) (Array.getElem?_eq_getElem (by decide)) (by kernel_rfl) (by kernel_rfl) (by kernel_rfl) (fun _ _ _ h => h) (Or.inl ⟨by rfl, ?_⟩) (by assumption) ?_; rotate_left; (intro w hSw; (try dsimp only at hSw); go_simp; done); simp only [Act.put, List.setIfInBounds_toArray, List.set_cons_zero, List.set_cons_succ, List.getElem_toArray, List.getElem_cons_succ, List.getElem_cons_zero])
                | (refine wpAnyH_take (i := 14) (v := ?_) (Array.getElem?_eq_getElem (by decide)) (by kernel_rfl) (by kernel_rfl) (by kernel_rfl) (fun _ _ _ h => h) (Or.inl ⟨by rfl, ?_⟩) (by assumption) ?_; rotate_left; (intro w hSw; (try dsimp only at hSw); go_simp; with_reducible rfl); simp only [Act.put, List.setIfInBounds_toArray, List.set_cons_zero, List.set_cons_succ, List.getElem_toArray, List.getElem_cons_succ, List.getElem_cons_zero])
                | (refine wpAnyH_take (i := 14) (v := undef) (Array.getElem?_eq_getElem (by decide)) (by kernel_rfl) (by kernel_rfl) (by kernel_rfl) (fun _ _ _ h => h) (Or.inr ⟨by rfl, rfl⟩) (by assumption) ?_; simp only [Act.put, List.setIfInBounds_toArray, List.set_cons_zero, List.set_cons_succ, List.getElem_toArray, List.getElem_cons_succ, List.getElem_cons_zero])
                refine wpAnyH_done (by kernel_rfl) ?_ _
                have hkv : Kept X v11 := And.left (by assumption)
                go_wp2
                go_ret
                exact ⟨rfl, hk0X.trans hkv⟩))
          · have hqk : ¬ q' = kn + 1 := by omega
            go_region_law ((refine step_append_grows (by rfl) _ _ _ (by rfl) 31 iF _ 9 80 Try.underlying23 hiF hzF0 hzF1 hzF2 rfl (by omega) (some ⟨g4, 0, none⟩) kn kn (recs (M.take kn)) (by rfl) (fun h => by cases h) P1.out (fun b hb => by injection hb with hb; subst hb; exact P2.out _ (by (repeat (first | assumption | exact Kept.refl _ | apply Kept.drew | apply Kept.alloc | (refine Kept.setCell ?_ (by dsimp only; omega) _))))) ⟨b', off' + (kn + 1) * 9, none⟩ (M.length - (kn + 1)) (q' - (kn + 1)) (recs (M.drop (kn + 1))) (by rfl) P3.out (P4.out _ (by (repeat (first | assumption | exact Kept.refl _ | apply Kept.drew | apply Kept.alloc | (refine Kept.setCell ?_ (by dsimp only; omega) _))))) (recs_one _) (by omega) (by unfold maxLen; omega) (by omega) ?_; intro v' wE hownE hgrowE; have hkE := kept_of_grown hgrowE; have hk9E : Kept W9 wE := Kept.trans (by (repeat (first | assumption | exact Kept.refl _ | apply Kept.drew | apply Kept.alloc | (refine Kept.setCell ?_ (by dsimp only; omega) _)))) hkE; obtain ⟨oE, cE, rfl⟩ := owns_form' hownE; have y0E := (hk9E.cell _ _ hz9).trans y0; have y1E := (hk9E.cell _ _ hz9).trans y1; have y2E := (hk9E.cell _ _ hz9).trans y2; have f2E := (hk9E.frozen _ _ hz9).trans f2; have hownX := fun u => Lib.hid (ownsRow_setCell_below hownE (a := ⟨w8.heap.size, 2, none⟩) (by simp; omega) u); clear hgrowE hownE))
            all_goals (
              go_wp2_with fail
              obtain ⟨X, hX⟩ : ∃ x, x = wE.setCell ⟨w8.heap.size, 2, none⟩ (.slice oE (kn + (M.length - (kn + 1))) cE) := ⟨_, rfl⟩
              have hOX := (hownX (.slice oE (kn + (M.length - (kn + 1))) cE)).out
              rw [← hX] at hOX
              rw [← hX]
              have hkX : Kept w8 X := by rw [hX]; exact Kept.setCell (hk9.trans hk9E) (Nat.le_refl _) _
              have d0 : X.cell? ⟨w8.heap.size, 0, none⟩ = some (.int .i64 f) := by rw [hX]; exact (World.cell?_setCell_far2 (by decide)).trans y0E
              have d1 : X.cell? ⟨w8.heap.size, 1, none⟩ = some (.slice o3 L.length c3) := by rw [hX]; exact (World.cell?_setCell_far2 (by decide)).trans y1E
              have d2 : X.cell? ⟨w8.heap.size, 2, none⟩ = some (.slice oE (kn + (M.length - (kn + 1))) cE) := by rw [hX]; exact World.cell?_setCell_same' _ _ _ (by rw [y2E]; rfl)
              have hzX8 : w8.heap.size < X.heap.size := by rw [hX, World.size_setCell]; exact Nat.lt_of_lt_of_le hz9 hk9E.size
              clear hX hownX
              have hEl : (M.take kn ++ M.drop (kn + 1)).length = kn + (M.length - (kn + 1)) := by rw [List.length_append, List.length_take, List.length_drop, Nat.min_eq_left (by omega)]
              have hRF : IsRecs X oE (M.take kn ++ M.drop (kn + 1)) := by
                rw [← recs_app, ← hEl] at hOX
                exact recs_of_owns' hOX
              clear hOX y0E y1E y2E f2E hk9E
              have hk3X : Kept w3 X := hk38.trans hkX
              have hk0X : Kept w X := hk08.trans hkX
              have hzX3 : w.heap.size + 1 < X.heap.size := Nat.lt_of_lt_of_le hz3 hk3X.size
              have hzX0 : w.heap.size < X.heap.size := by omega
              have hzX : w8.heap.size < X.heap.size := hzX8
              have a0 := (hk3X.cell _ _ (by omega)).trans (HB.out 0 _ rfl)
              have a1 := (hk3X.cell _ _ (by omega)).trans (HB.out 1 _ rfl)
              have a2 := (hk3X.cell _ _ (by omega)).trans (HB.out 2 _ rfl)
              obtain ⟨bb, ob, eb, i0, _⟩ := (HM.out.kept hk0X).cells kn hkl
              injection eb with eb
              injection eb with eb1 eb2 _
              subst eb1 eb2
              have hzi := lt_cellL i0
              obtain ⟨gg1, gg2⟩ := falls f L M kn hkl HC.out
              have okE : ∀ r ∈ M.take kn ++ M.drop (kn + 1), r.ok := fun r hr => by
                rw [List.mem_append] at hr
                rcases hr with hr | hr
                · exact HkM.out r (List.mem_of_mem_take hr)
                · exact HkM.out r (List.mem_of_mem_drop hr)
              have KE := Lib.hid (fun w' (k : Kept X w') => CCheck_any f o3 oE c3 cE L (M.take kn ++ M.drop (kn + 1)) w' (RL3.out.kept (hkX.trans k)) (hRF.kept k) HkL.out okE)
              have KG := Lib.hid (fun w' (k : Kept X w') => Find_any f o3 oE c3 cE L (M.take kn ++ M.drop (kn + 1)) (M[kn]!).s w' (hRF.kept k) (by rw [hEl]; omega))
              rw [gg1, chV_t, hEl] at KE
              rw [gg2, hEl] at KG
              generalize (M[kn]!).s = id at *
              clear okE gg1 gg2 hRF RL3 RE HM HL HkM HkL HC KP KI HB HE HF HO P1 P2 P3 P4 hkX hk3X
              clear hk8 hk9 hz9 y0 y1 y2 f0 f1 f2 v0 v1 v2
              go_wp2_with fail
              refine wp_region_held_drew (S := fun w' => Kept (X) w' ∧ (∀ b o, b < (X).heap.size → w'.cell? ⟨b, o, none⟩ = (X).cell? ⟨b, o, none⟩)) (by kernel_rfl) (held_of (Kept.drew (Kept.refl _))) (fun hHeld => ?_)
              first
              | (refine wpAnyH_take (i := 0) (v := ?_) (Array.getElem?_eq_getElem (by decide)) (by kernel_rfl) (by kernel_rfl) (by kernel_rfl) (fun _ _ _ h => h) (Or.inl ⟨by rfl, ?_⟩) (by assumption) ?_; rotate_left; (intro w hSw; (try dsimp only at hSw); go_simp; done); simp only [Act.put, List.setIfInBounds_toArray, List.set_cons_zero, List.set_cons_succ, List.getElem_toArray, List.getElem_cons_succ, List.getElem_cons_zero])
              | (refine wpAnyH_take (i := 0) (v := ?_) (Array.getElem?_eq_getElem (by decide)) (by kernel_rfl) (by kernel_rfl) (by kernel_rfl) (fun _ _ _ h => h) (Or.inl ⟨by rfl, ?_⟩) (by assumption) ?_; rotate_left; (intro w hSw; (try dsimp only at hSw); go_simp; with_reducible rfl); simp only [Act.put, List.setIfInBounds_toArray, List.set_cons_zero, List.set_cons_succ, List.getElem_toArray, List.getElem_cons_succ, List.getElem_cons_zero])
              | (refine wpAnyH_take (i := 0) (v := undef) (Array.getElem?_eq_getElem (by decide)) (by kernel_rfl) (by kernel_rfl) (by kernel_rfl) (fun _ _ _ h => h) (Or.inr ⟨by rfl, rfl⟩) (by assumption) ?_; simp only [Act.put, List.setIfInBounds_toArray, List.set_cons_zero, List.set_cons_succ, List.getElem_toArray, List.getElem_cons_succ, List.getElem_cons_zero])
              refine wpAnyH_ready (rs := [1]) (by kernel_rfl) (by simp) ?_
              refine AllReadyH.cons rfl (fun K hK => ?_) AllReadyH.nil
              go_simp
              go_at_call 14
              (with_reducible refine (KE.out _ (And.left (by assumption))).mono ?_)
              rintro e v1 ⟨rfl, hq1⟩
              refine hK.out _ _ (held_of (Kept.trans (And.left (by assumption)) (by assumption))) (fun hHeld1 => ?_)
              clear hK K
              try simp only [Act.put, List.setIfInBounds_toArray, List.set_cons_zero, List.set_cons_succ, List.getElem_toArray, List.getElem_cons_succ, List.getElem_cons_zero]
              first
              | (refine wpAnyH_take (i := 2) (v := ?_) (Array.getElem?_eq_getElem (by decide)) (by kernel_rfl) (by kernel_rfl) (by kernel_rfl) (fun _ _ _ h => h) (Or.inl ⟨by rfl, ?_⟩) (by assumption) ?_; rotate_left; (intro w hSw; (try dsimp only at hSw); go_simp; done); simp only [Act.put, List.setIfInBounds_toArray, List.set_cons_zero, List.set_cons_succ, List.getElem_toArray, List.getElem_cons_succ, List.getElem_cons_zero])
              | (refine wpAnyH_take (i := 2) (v := ?_) (Array.getElem?_eq_getElem (by decide)) (by kernel_rfl) (by kernel_rfl) (by kernel_rfl) (fun _ _ _ h => h) (Or.inl ⟨by rfl, ?_⟩) (by assumption) ?_; rotate_left; (intro w hSw; (try dsimp only at hSw); go_simp; with_reducible rfl); simp only [Act.put, List.setIfInBounds_toArray, List.set_cons_zero, List.set_cons_succ, List.getElem_toArray, List.getElem_cons_succ, List.getElem_cons_zero])
              | (refine wpAnyH_take (i := 2) (v := undef) (Array.getElem?_eq_getElem (by decide)) (by kernel_rfl) (by kernel_rfl) (by kernel_rfl) (fun _ _ _ h => h) (Or.inr ⟨by rfl, rfl⟩) (by assumption) ?_; simp only [Act.put, List.setIfInBounds_toArray, List.set_cons_zero, List.set_cons_succ, List.getElem_toArray, List.getElem_cons_succ, List.getElem_cons_zero])
              first
              | (refine wpAnyH_take (i := 3) (v := ?_) (Array.getElem?_eq_getElem (by decide)) (by kernel_rfl) (by kernel_rfl) (by kernel_rfl) (fun _ _ _ h => h) (Or.inl ⟨by rfl, ?_⟩) (by assumption) ?_; rotate_left; (intro w hSw; (try dsimp only at hSw); go_simp; done); simp only [Act.put, List.setIfInBounds_toArray, List.set_cons_zero, List.set_cons_succ, List.getElem_toArray, List.getElem_cons_succ, List.getElem_cons_zero])
              | (refine wpAnyH_take (i := 3) (v := ?_) (Array.getElem?_eq_getElem (by decide)) (by kernel_rfl) (by kernel_rfl) (by kernel_rfl) (fun _ _ _ h => h) (Or.inl ⟨by rfl, ?_⟩) (by assumption) ?_; rotate_left; (intro w hSw; (try dsimp only at hSw); go_simp; with_reducible rfl); simp only [Act.put, List.setIfInBounds_toArray, List.set_cons_zero, List.set_cons_succ, List.getElem_toArray, List.getElem_cons_succ, List.getElem_cons_zero])
              | (refine wpAnyH_take (i := 3) (v := undef) (Array.getElem?_eq_getElem (by decide)) (by kernel_rfl) (by kernel_rfl) (by kernel_rfl) (fun _ _ _ h => h) (Or.inr ⟨by rfl, rfl⟩) (by assumption) ?_; simp only [Act.put, List.setIfInBounds_toArray, List.set_cons_zero, List.set_cons_succ, List.getElem_toArray, List.getElem_cons_succ, List.getElem_cons_zero])
              first
              | (refine wpAnyH_take (i := 4) (v := ?_) (Array.getElem?_eq_getElem (by decide)) (by kernel_rfl) (by kernel_rfl) (by kernel_rfl) (fun _ _ _ h => h) (Or.inl ⟨by rfl, ?_⟩) (by assumption) ?_; rotate_left; (intro w hSw; (try dsimp only at hSw); go_simp; done); simp only [Act.put, List.setIfInBounds_toArray, List.set_cons_zero, List.set_cons_succ, List.getElem_toArray, List.getElem_cons_succ, List.getElem_cons_zero])
              | (refine wpAnyH_take (i := 4) (v := ?_) (Array.getElem?_eq_getElem (by decide)) (by kernel_rfl) (by kernel_rfl) (by kernel_rfl) (fun _ _ _ h => h) (Or.inl ⟨by rfl, ?_⟩) (by assumption) ?_; rotate_left; (intro w hSw; (try dsimp only at hSw); go_simp; with_reducible rfl); simp only [Act.put, List.setIfInBounds_toArray, List.set_cons_zero, List.set_cons_succ, List.getElem_toArray, List.getElem_cons_succ, List.getElem_cons_zero])
              | (refine wpAnyH_take (i := 4) (v := undef) (Array.getElem?_eq_getElem (by decide)) (by kernel_rfl) (by kernel_rfl) (by kernel_rfl) (fun _ _ _ h => h) (Or.inr ⟨by rfl, rfl⟩) (by assumption) ?_; simp only [Act.put, List.setIfInBounds_toArray, List.set_cons_zero, List.set_cons_succ, List.getElem_toArray, List.getElem_cons_succ, List.getElem_cons_zero])
              first
              | (refine wpAnyH_take (i := 5) (v := ?_) (Array.getElem?_eq_getElem (by decide)) (by kernel_rfl) (by kernel_rfl) (by kernel_rfl) (fun _ _ _ h => h) (Or.inl ⟨by rfl, ?_⟩) (by assumption) ?_; rotate_left; (intro w hSw; (try dsimp only at hSw); go_simp; done); simp only [Act.put, List.setIfInBounds_toArray, List.set_cons_zero, List.set_cons_succ, List.getElem_toArray, List.getElem_cons_succ, List.getElem_cons_zero])
              | (refine wpAnyH_take (i := 5) (v := ?_) (Array.getElem?_eq_getElem (by decide)) (by kernel_rfl) (by kernel_rfl) (by kernel_rfl) (fun _ _ _ h => h) (Or.inl ⟨by rfl, ?_⟩) (by assumption) ?_; rotate_left; (intro w hSw; (try dsimp only at hSw); go_simp; with_reducible rfl); simp only [Act.put, List.setIfInBounds_toArray, List.set_cons_zero, List.set_cons_succ, List.getElem_toArray, List.getElem_cons_succ, List.getElem_cons_zero])
              | (refine wpAnyH_take (i := 5) (v := undef) (Array.getElem?_eq_getElem (by decide)) (by kernel_rfl) (by kernel_rfl) (by kernel_rfl) (fun _ _ _ h => h) (Or.inr ⟨by rfl, rfl⟩) (by assumption) ?_; simp only [Act.put, List.setIfInBounds_toArray, List.set_cons_zero, List.set_cons_succ, List.getElem_toArray, List.getElem_cons_succ, List.getElem_cons_zero])
              first
              | (refine wpAnyH_take (i := 6) (v := ?_) (Array.getElem?_eq_getElem (by decide)) (by kernel_rfl) (by kernel_rfl) (by kernel_rfl) (fun _ _ _ h => h) (Or.inl ⟨by rfl, ?_⟩) (by assumption) ?_; rotate_left; (intro w hSw; (try dsimp only at hSw); go_simp; done); simp only [Act.put, List.setIfInBounds_toArray, List.set_cons_zero, List.set_cons_succ, List.getElem_toArray, List.getElem_cons_succ, List.getElem_cons_zero])
              | (refine wpAnyH_take (i := 6) (v := ?_) (Array.getElem?_eq_getElem (by decide)) (by kernel_rfl) (by kernel_rfl) (by kernel_rfl) (fun _ _ _ h => h) (Or.inl ⟨by rfl, ?_⟩) (by assumption) ?_; rotate_left; (intro w hSw; (try dsimp only at hSw); go_simp; with_reducible rfl); simp only [Act.put, List.setIfInBounds_toArray, List.set_cons_zero, List.set_cons_succ, List.getElem_toArray, List.getElem_cons_succ, List.getElem_cons_zero])
              | (refine wpAnyH_take (i := 6) (v := undef) (Array.getElem?_eq_getElem (by decide)) (by kernel_rfl) (by kernel_rfl) (by kernel_rfl) (fun _ _ _ h => h) (Or.inr ⟨by rfl, rfl⟩) (by assumption) ?_; simp only [Act.put, List.setIfInBounds_toArray, List.set_cons_zero, List.set_cons_succ, List.getElem_toArray, List.getElem_cons_succ, List.getElem_cons_zero])
              first
              | (refine wpAnyH_take (i := 7) (v := ?_) (Array.getElem?_eq_getElem (by decide)) (by kernel_rfl) (by kernel_rfl) (by kernel_rfl) (fun _ _ _ h => h) (Or.inl ⟨by rfl, ?_⟩) (by assumption) ?_; rotate_left; (intro w hSw; (try dsimp only at hSw); go_simp; done); simp only [Act.put, List.setIfInBounds_toArray, List.set_cons_zero, List.set_cons_succ, List.getElem_toArray, List.getElem_cons_succ, List.getElem_cons_zero])
              | (refine wpAnyH_take (i := 7) (v := ?_) (Array.getElem?_eq_getElem (by decide)) (by kernel_rfl) (by kernel_rfl) (by kernel_rfl) (fun _ _ _ h => h) (Or.inl ⟨by rfl, ?_⟩) (by assumption) ?_; rotate_left; (intro w hSw; (try dsimp only at hSw); go_simp; with_reducible rfl); simp only [Act.put, List.setIfInBounds_toArray, List.set_cons_zero, List.set_cons_succ, List.getElem_toArray, List.getElem_cons_succ, List.getElem_cons_zero])
              | (refine wpAnyH_take (i := 7) (v := undef) (Array.getElem?_eq_getElem (by decide)) (by kernel_rfl) (by kernel_rfl) (by kernel_rfl) (fun _ _ _ h => h) (Or.inr ⟨by rfl, rfl⟩) (by assumption) ?_; simp only [Act.put, List.setIfInBounds_toArray, List.set_cons_zero, List.set_cons_succ, List.getElem_toArray, List.getElem_cons_succ, List.getElem_cons_zero])
              first
              | (refine wpAnyH_take (i := 8) (v := ?_) (Array.getElem?_eq_getElem (by decide)) (by kernel_rfl) (by kernel_rfl) (by kernel_rfl) (fun _ _ _ h => h) (Or.inl ⟨by rfl, ?_⟩) (by assumption) ?_; rotate_left; (intro w hSw; (try dsimp only at hSw); go_simp; done); simp only [Act.put, List.setIfInBounds_toArray, List.set_cons_zero, List.set_cons_succ, List.getElem_toArray, List.getElem_cons_succ, List.getElem_cons_zero])
              | (refine wpAnyH_take (i := 8) (v := ?_) (Array.getElem?_eq_getElem (by decide)) (by kernel_rfl) (by kernel_rfl) (by kernel_rfl) (fun _ _ _ h => h) (Or.inl ⟨by rfl, ?_⟩) (by assumption) ?_; rotate_left; (intro w hSw; (try dsimp only at hSw); go_simp; with_reducible rfl); simp only [Act.put, List.setIfInBounds_toArray, List.set_cons_zero, List.set_cons_succ, List.getElem_toArray, List.getElem_cons_succ, List.getElem_cons_zero])
              | (refine wpAnyH_take (i := 8) (v := undef) (Array.getElem?_eq_getElem (by decide)) (by kernel_rfl) (by kernel_rfl) (by kernel_rfl) (fun _ _ _ h => h) (Or.inr ⟨by rfl, rfl⟩) (by assumption) ?_; simp only [Act.put, List.setIfInBounds_toArray, List.set_cons_zero, List.set_cons_succ, List.getElem_toArray, List.getElem_cons_succ, List.getElem_cons_zero])
              first
              | (refine wpAnyH_take (i := 9) (v := ?_) (Array.getElem?_eq_getElem (by decide)) (by kernel_rfl) (by kernel_rfl) (by kernel_rfl) (fun _ _ _ h => h) (Or.inl ⟨by rfl, ?_⟩) (by assumption) ?_; rotate_left; (intro w hSw; (try dsimp only at hSw); go_simp; done); simp only [Act.put, List.setIfInBounds_toArray, List.set_cons_zero, List.set_cons_succ, List.getElem_toArray, List.getElem_cons_succ, List.getElem_cons_zero])
              | (refine wpAnyH_take (i := 9) (v := ?_) (Array.getElem?_eq_getElem (by decide)) (by kernel_rfl) (by kernel_rfl) (by kernel_rfl) (fun _ _ _ h => h) (Or.inl ⟨by rfl, ?_⟩) (by assumption) ?_; rotate_left; (intro w hSw; (try dsimp only at hSw); go_simp; with_reducible rfl); simp only [Act.put, List.setIfInBounds_toArray, List.set_cons_zero, List.set_cons_succ, List.getElem_toArray, List.getElem_cons_succ, List.getElem_cons_zero])
              | (refine wpAnyH_take (i := 9) (v := undef) (Array.getElem?_eq_getElem (by decide)) (by kernel_rfl) (by kernel_rfl) (by kernel_rfl) (fun _ _ _ h => h) (Or.inr ⟨by rfl, rfl⟩) (by assumption) ?_; simp only [Act.put, List.setIfInBounds_toArray, List.set_cons_zero, List.set_cons_succ, List.getElem_toArray, List.getElem_cons_succ, List.getElem_cons_zero])
              first
              | (refine wpAnyH_take (i := 10) (v := ?_) (Array.getElem?_eq_getElem (by decide)) (by kernel_rfl) (by kernel_rfl) (by kernel_rfl) (fun _ _ _ h => h) (Or.inl ⟨by rfl, ?_⟩) (by assumption) ?_; rotate_left; (intro w hSw; (try dsimp only at hSw); go_simp; done); simp only [Act.put, List.setIfInBounds_toArray, List.set_cons_zero, List.set_cons_succ, List.getElem_toArray, List.getElem_cons_succ, List.getElem_cons_zero])
              | (refine wpAnyH_take (i := 10) (v := ?_) (Array.getElem?_eq_getElem (by decide)) (by kernel_rfl) (by kernel_rfl) (by kernel_rfl) (fun _ _ _ h => h) (Or.inl ⟨by rfl, ?_⟩) (by assumption) ?_; rotate_left; (intro w hSw; (try dsimp only at hSw); go_simp; with_reducible rfl); simp only [Act.put, List.setIfInBounds_toArray, List.set_cons_zero, List.set_cons_succ, List.getElem_toArray, List.getElem_cons_succ, List.getElem_cons_zero])
              | (refine wpAnyH_take (i := 10) (v := undef) (Array.getElem?_eq_getElem (by decide)) (by kernel_rfl) (by kernel_rfl) (by kernel_rfl) (fun _ _ _ h => h) (Or.inr ⟨by rfl, rfl⟩) (by assumption) ?_; simp only [Act.put, List.setIfInBounds_toArray, List.set_cons_zero, List.set_cons_succ, List.getElem_toArray, List.getElem_cons_succ, List.getElem_cons_zero])
              refine wpAnyH_ready (rs := [11]) (by kernel_rfl) (by simp) ?_
              refine AllReadyH.cons rfl (fun K hK => ?_) AllReadyH.nil
              go_simp
              go_at_call 16
              (with_reducible refine (KG.out _ (And.left (by assumption))).mono ?_)
              rintro e v11 ⟨rfl, hq11⟩
              refine hK.out _ _ (held_of (Kept.trans (And.left (by assumption)) (by assumption))) (fun hHeld11 => ?_)
              clear hK K
              try simp only [Act.put, List.setIfInBounds_toArray, List.set_cons_zero, List.set_cons_succ, List.getElem_toArray, List.getElem_cons_succ, List.getElem_cons_zero]
              first
              | (refine wpAnyH_take (i := 12) (v := ?_) (Array.getElem?_eq_getElem (by decide)) (by kernel_rfl) (by kernel_rfl) (by kernel_rfl) (fun _ _ _ h => h) (Or.inl ⟨by rfl, ?_⟩) (by assumption) ?_; rotate_left; (intro w hSw; (try dsimp only at hSw); go_simp; done); simp only [Act.put, List.setIfInBounds_toArray, List.set_cons_zero, List.set_cons_succ, List.getElem_toArray, List.getElem_cons_succ, List.getElem_cons_zero])
              | (refine wpAnyH_take (i := 12) (v := ?_) (Array.getElem?_eq_getElem (by decide)) (by kernel_rfl) (by kernel_rfl) (by kernel_rfl) (fun _ _ _ h => h) (Or.inl ⟨by rfl, ?_⟩) (by assumption) ?_; rotate_left; (intro w hSw; (try dsimp only at hSw); go_simp; with_reducible rfl); simp only [Act.put, List.setIfInBounds_toArray, List.set_cons_zero, List.set_cons_succ, List.getElem_toArray, List.getElem_cons_succ, List.getElem_cons_zero])
              | (refine wpAnyH_take (i := 12) (v := undef) (Array.getElem?_eq_getElem (by decide)) (by kernel_rfl) (by kernel_rfl) (by kernel_rfl) (fun _ _ _ h => h) (Or.inr ⟨by rfl, rfl⟩) (by assumption) ?_; simp only [Act.put, List.setIfInBounds_toArray, List.set_cons_zero, List.set_cons_succ, List.getElem_toArray, List.getElem_cons_succ, List.getElem_cons_zero])
              first
              | (refine wpAnyH_take (i := 13) (v := ?_) (Array.getElem?_eq_getElem (by decide)) (by kernel_rfl) (by kernel_rfl) (by kernel_rfl) (fun _ _ _ h => h) (Or.inl ⟨by rfl, ?_⟩) (by assumption) ?_; rotate_left; (intro w hSw; (try dsimp only at hSw); go_simp; done); simp only [Act.put, List.setIfInBounds_toArray, List.set_cons_zero, List.set_cons_succ, List.getElem_toArray, List.getElem_cons_succ, List.getElem_cons_zero])
              | (refine wpAnyH_take (i := 13) (v := ?_) (Array.getElem?_eq_getElem (by decide)) (by kernel_rfl) (by kernel_rfl) (by kernel_rfl) (fun _ _ _ h => h) (Or.inl ⟨by rfl, ?_⟩) (by assumption) ?_; rotate_left; (intro w hSw; (try dsimp only at hSw); go_simp; with_reducible rfl); simp only [Act.put, List.setIfInBounds_toArray, List.set_cons_zero, List.set_cons_succ, List.getElem_toArray, List.getElem_cons_succ, List.getElem_cons_zero])
              | (refine wpAnyH_take (i := 13) (v := undef) (Array.getElem?_eq_getElem (by decide)) (by kernel_rfl) (by kernel_rfl) (by kernel_rfl) (fun _ _ _ h => h) (Or.inr ⟨by rfl, rfl⟩) (by assumption) ?_; simp only [Act.put, List.setIfInBounds_toArray, List.set_cons_zero, List.set_cons_succ, List.getElem_toArray, List.getElem_cons_succ, List.getElem_cons_zero])
              first
              | (refine wpAnyH_take (i := 14) (v := ?_) (Array.getElem?_eq_getElem (by decide)) (by kernel_rfl) (by kernel_rfl) (by kernel_rfl) (fun _ _ _ h => h) (Or.inl ⟨by rfl, ?_⟩) (by assumption) ?_; rotate_left; (intro w hSw; (try dsimp only at hSw); go_simp; done); simp only [Act.put, List.setIfInBounds_toArray, List.set_cons_zero, List.set_cons_succ, List.getElem_toArray, List.getElem_cons_succ, List.getElem_cons_zero])
              | (refine wpAnyH_take (i := 14) (v := ?_) (Array.getElem?_eq_getElem (by decide)) (by kernel_rfl) (by kernel_rfl) (by kernel_rfl) (fun _ _ _ h => h) (Or.inl ⟨by rfl, ?_⟩) (by assumption) ?_; rotate_left; (intro w hSw; (try dsimp only at hSw); go_simp; with_reducible rfl); simp only [Act.put, List.setIfInBounds_toArray, List.set_cons_zero, List.set_cons_succ, List.getElem_toArray, List.getElem_cons_succ, List.getElem_cons_zero])
              | (refine wpAnyH_take (i := 14) (v := undef) (Array.getElem?_eq_getElem (by decide)) (by kernel_rfl) (by kernel_rfl) (by kernel_rfl) (fun _ _ _ h => h) (Or.inr ⟨by rfl, rfl⟩) (by assumption) ?_; simp only [Act.put, List.setIfInBounds_toArray, List.set_cons_zero, List.set_cons_succ, List.getElem_toArray, List.getElem_cons_succ, List.getElem_cons_zero])
              refine wpAnyH_done (by kernel_rfl) ?_ _
              have hkv : Kept X v11 := And.left (by assumption)
              go_wp2
              go_ret
              exact ⟨rfl, hk0X.trans hkv⟩)
      | false =>
        obtain ⟨g1, g2⟩ := grows_out f L M ⟨s, x1, x2, x3, x4, x5, x6, x7, x8⟩ HC.out h30 HF.out HU.out.symm
        rw [g1, chV_t] at KD
        rw [g2] at KFd
        clear RL RD hD HU g1 g2
        go_wp2_with fail
        refine wp_region_held_drew (S := fun w' => Kept (w6) w' ∧ (∀ b o, b < (w6).heap.size → w'.cell? ⟨b, o, none⟩ = (w6).cell? ⟨b, o, none⟩)) (by kernel_rfl) (held_of (Kept.drew (Kept.refl _))) (fun hHeld => ?_)
        first
        | (refine wpAnyH_take (i := 0) (v := ?_) (Array.getElem?_eq_getElem (by decide)) (by kernel_rfl) (by kernel_rfl) (by kernel_rfl) (fun _ _ _ h => h) (Or.inl ⟨by rfl, ?_⟩) (by assumption) ?_; rotate_left; (intro w hSw; (try dsimp only at hSw); go_simp; done); simp only [Act.put, List.setIfInBounds_toArray, List.set_cons_zero, List.set_cons_succ, List.getElem_toArray, List.getElem_cons_succ, List.getElem_cons_zero])
        | (refine wpAnyH_take (i := 0) (v := ?_) (Array.getElem?_eq_getElem (by decide)) (by kernel_rfl) (by kernel_rfl) (by kernel_rfl) (fun _ _ _ h => h) (Or.inl ⟨by rfl, ?_⟩) (by assumption) ?_; rotate_left; (intro w hSw; (try dsimp only at hSw); go_simp; with_reducible rfl); simp only [Act.put, List.setIfInBounds_toArray, List.set_cons_zero, List.set_cons_succ, List.getElem_toArray, List.getElem_cons_succ, List.getElem_cons_zero])
        | (refine wpAnyH_take (i := 0) (v := undef) (Array.getElem?_eq_getElem (by decide)) (by kernel_rfl) (by kernel_rfl) (by kernel_rfl) (fun _ _ _ h => h) (Or.inr ⟨by rfl, rfl⟩) (by assumption) ?_; simp only [Act.put, List.setIfInBounds_toArray, List.set_cons_zero, List.set_cons_succ, List.getElem_toArray, List.getElem_cons_succ, List.getElem_cons_zero])
        first
        | (refine wpAnyH_take (i := 3) (v := ?_) (Array.getElem?_eq_getElem (by decide)) (by kernel_rfl) (by kernel_rfl) (by kernel_rfl) (fun _ _ _ h => h) (Or.inl ⟨by rfl, ?_⟩) (by assumption) ?_; rotate_left; (intro w hSw; (try dsimp only at hSw); go_simp; done); simp only [Act.put, List.setIfInBounds_toArray, List.set_cons_zero, List.set_cons_succ, List.getElem_toArray, List.getElem_cons_succ, List.getElem_cons_zero])
        | (refine wpAnyH_take (i := 3) (v := ?_) (Array.getElem?_eq_getElem (by decide)) (by kernel_rfl) (by kernel_rfl) (by kernel_rfl) (fun _ _ _ h => h) (Or.inl ⟨by rfl, ?_⟩) (by assumption) ?_; rotate_left; (intro w hSw; (try dsimp only at hSw); go_simp; with_reducible rfl); simp only [Act.put, List.setIfInBounds_toArray, List.set_cons_zero, List.set_cons_succ, List.getElem_toArray, List.getElem_cons_succ, List.getElem_cons_zero])
        | (refine wpAnyH_take (i := 3) (v := undef) (Array.getElem?_eq_getElem (by decide)) (by kernel_rfl) (by kernel_rfl) (by kernel_rfl) (fun _ _ _ h => h) (Or.inr ⟨by rfl, rfl⟩) (by assumption) ?_; simp only [Act.put, List.setIfInBounds_toArray, List.set_cons_zero, List.set_cons_succ, List.getElem_toArray, List.getElem_cons_succ, List.getElem_cons_zero])
        refine wpAnyH_ready (rs := [1]) (by kernel_rfl) (by simp) ?_
        refine AllReadyH.cons rfl (fun K hK => ?_) AllReadyH.nil
        go_simp
        go_at_call 14
        (with_reducible refine (KD.out _ (And.left (by assumption))).mono ?_)
        rintro e v1 ⟨rfl, hq1⟩
        refine hK.out _ _ (held_of (Kept.trans (And.left (by assumption)) (by assumption))) (fun hHeld1 => ?_)
        clear hK K
        try simp only [Act.put, List.setIfInBounds_toArray, List.set_cons_zero, List.set_cons_succ, List.getElem_toArray, List.getElem_cons_succ, List.getElem_cons_zero]
        first
        | (refine wpAnyH_take (i := 2) (v := ?_) (Array.getElem?_eq_getElem (by decide)) (by kernel_rfl) (by kernel_rfl) (by kernel_rfl) (fun _ _ _ h => h) (Or.inl ⟨by rfl, ?_⟩) (by assumption) ?_; rotate_left; (intro w hSw; (try dsimp only at hSw); go_simp; done); simp only [Act.put, List.setIfInBounds_toArray, List.set_cons_zero, List.set_cons_succ, List.getElem_toArray, List.getElem_cons_succ, List.getElem_cons_zero])
        | (refine wpAnyH_take (i := 2) (v := ?_) (Array.getElem?_eq_getElem (by decide)) (by kernel_rfl) (by kernel_rfl) (by kernel_rfl) (fun _ _ _ h => h) (Or.inl ⟨by rfl, ?_⟩) (by assumption) ?_; rotate_left; (intro w hSw; (try dsimp only at hSw); go_simp; with_reducible rfl); simp only [Act.put, List.setIfInBounds_toArray, List.set_cons_zero, List.set_cons_succ, List.getElem_toArray, List.getElem_cons_succ, List.getElem_cons_zero])
        | (refine wpAnyH_take (i := 2) (v := undef) (Array.getElem?_eq_getElem (by decide)) (by kernel_rfl) (by kernel_rfl) (by kernel_rfl) (fun _ _ _ h => h) (Or.inr ⟨by rfl, rfl⟩) (by assumption) ?_; simp only [Act.put, List.setIfInBounds_toArray, List.set_cons_zero, List.set_cons_succ, List.getElem_toArray, List.getElem_cons_succ, List.getElem_cons_zero])
        first
        | (refine wpAnyH_take (i := 4) (v := ?_) (Array.getElem?_eq_getElem (by decide)) (by kernel_rfl) (by kernel_rfl) (by kernel_rfl) (fun _ _ _ h => h) (Or.inl ⟨by rfl, ?_⟩) (by assumption) ?_; rotate_left; (intro w hSw; (try dsimp only at hSw); go_simp; done); simp only [Act.put, List.setIfInBounds_toArray, List.set_cons_zero, List.set_cons_succ, List.getElem_toArray, List.getElem_cons_succ, List.getElem_cons_zero])
        | (refine wpAnyH_take (i := 4) (v := ?_) (Array.getElem?_eq_getElem (by decide)) (by kernel_rfl) (by kernel_rfl) (by kernel_rfl) (fun _ _ _ h => h) (Or.inl ⟨by rfl, ?_⟩) (by assumption) ?_; rotate_left; (intro w hSw; (try dsimp only at hSw); go_simp; with_reducible rfl); simp only [Act.put, List.setIfInBounds_toArray, List.set_cons_zero, List.set_cons_succ, List.getElem_toArray, List.getElem_cons_succ, List.getElem_cons_zero])
        | (refine wpAnyH_take (i := 4) (v := undef) (Array.getElem?_eq_getElem (by decide)) (by kernel_rfl) (by kernel_rfl) (by kernel_rfl) (fun _ _ _ h => h) (Or.inr ⟨by rfl, rfl⟩) (by assumption) ?_; simp only [Act.put, List.setIfInBounds_toArray, List.set_cons_zero, List.set_cons_succ, List.getElem_toArray, List.getElem_cons_succ, List.getElem_cons_zero])
        first
        | (refine wpAnyH_take (i := 5) (v := ?_) (Array.getElem?_eq_getElem (by decide)) (by kernel_rfl) (by kernel_rfl) (by kernel_rfl) (fun _ _ _ h => h) (Or.inl ⟨by rfl, ?_⟩) (by assumption) ?_; rotate_left; (intro w hSw; (try dsimp only at hSw); go_simp; done); simp only [Act.put, List.setIfInBounds_toArray, List.set_cons_zero, List.set_cons_succ, List.getElem_toArray, List.getElem_cons_succ, List.getElem_cons_zero])
        | (refine wpAnyH_take (i := 5) (v := ?_) (Array.getElem?_eq_getElem (by decide)) (by kernel_rfl) (by kernel_rfl) (by kernel_rfl) (fun _ _ _ h => h) (Or.inl ⟨by rfl, ?_⟩) (by assumption) ?_; rotate_left; (intro w hSw; (try dsimp only at hSw); go_simp; with_reducible rfl); simp only [Act.put, List.setIfInBounds_toArray, List.set_cons_zero, List.set_cons_succ, List.getElem_toArray, List.getElem_cons_succ, List.getElem_cons_zero])
        | (refine wpAnyH_take (i := 5) (v := undef) (Array.getElem?_eq_getElem (by decide)) (by kernel_rfl) (by kernel_rfl) (by kernel_rfl) (fun _ _ _ h => h) (Or.inr ⟨by rfl, rfl⟩) (by assumption) ?_; simp only [Act.put, List.setIfInBounds_toArray, List.set_cons_zero, List.set_cons_succ, List.getElem_toArray, List.getElem_cons_succ, List.getElem_cons_zero])
        first
        | (refine wpAnyH_take (i := 6) (v := ?_) (Array.getElem?_eq_getElem (by decide)) (by kernel_rfl) (by kernel_rfl) (by kernel_rfl) (fun _ _ _ h => h) (Or.inl ⟨by rfl, ?_⟩) (by assumption) ?_; rotate_left; (intro w hSw; (try dsimp only at hSw); go_simp; done); simp only [Act.put, List.setIfInBounds_toArray, List.set_cons_zero, List.set_cons_succ, List.getElem_toArray, List.getElem_cons_succ, List.getElem_cons_zero])
        | (refine wpAnyH_take (i := 6) (v := ?_) (Array.getElem?_eq_getElem (by decide)) (by kernel_rfl) (by kernel_rfl) (by kernel_rfl) (fun _ _ _ h => h) (Or.inl ⟨by rfl, ?_⟩) (by assumption) ?_; rotate_left; (intro w hSw; (try dsimp only at hSw); go_simp; with_reducible rfl); simp only [Act.put, List.setIfInBounds_toArray, List.set_cons_zero, List.set_cons_succ, List.getElem_toArray, List.getElem_cons_succ, List.getElem_cons_zero])
        | (refine wpAnyH_take (i := 6) (v := undef) (Array.getElem?_eq_getElem (by decide)) (by kernel_rfl) (by kernel_rfl) (by kernel_rfl) (fun _ _ _ h => h) (Or.inr ⟨by rfl, rfl⟩) (by assumption) ?_; simp only [Act.put, List.setIfInBounds_toArray, List.set_cons_zero, List.set_cons_succ, List.getElem_toArray, List.getElem_cons_succ, List.getElem_cons_zero])
        first
        | (refine wpAnyH_take (i := 7) (v := ?_) (Array.getElem?_eq_getElem (by decide)) (by kernel_rfl) (by kernel_rfl) (by kernel_rfl) (fun _ _ _ h => h) (Or.inl ⟨by rfl, ?_⟩) (by assumption) ?_; rotate_left; (intro w hSw; (try dsimp only at hSw); go_simp; done); simp only [Act.put, List.setIfInBounds_toArray, List.set_cons_zero, List.set_cons_succ, List.getElem_toArray, List.getElem_cons_succ, List.getElem_cons_zero])
        | (refine wpAnyH_take (i := 7) (v := ?_) (Array.getElem?_eq_getElem (by decide)) (by kernel_rfl) (by kernel_rfl) (by kernel_rfl) (fun _ _ _ h => h) (Or.inl ⟨by rfl, ?_⟩) (by assumption) ?_; rotate_left; (intro w hSw; (try dsimp only at hSw); go_simp; with_reducible rfl); simp only [Act.put, List.setIfInBounds_toArray, List.set_cons_zero, List.set_cons_succ, List.getElem_toArray, List.getElem_cons_succ, List.getElem_cons_zero])
        | (refine wpAnyH_take (i := 7) (v := undef) (Array.getElem?_eq_getElem (by decide)) (by kernel_rfl) (by kernel_rfl) (by kernel_rfl) (fun _ _ _ h => h) (Or.inr ⟨by rfl, rfl⟩) (by assumption) ?_; simp only [Act.put, List.setIfInBounds_toArray, List.set_cons_zero, List.set_cons_succ, List.getElem_toArray, List.getElem_cons_succ, List.getElem_cons_zero])
        first
        | (refine wpAnyH_take (i := 8) (v := ?_) (Array.getElem?_eq_getElem (by decide)) (by kernel_rfl) (by kernel_rfl) (by kernel_rfl) (fun _ _ _ h => h) (Or.inl ⟨by rfl, ?_⟩) (by assumption) ?_; rotate_left; (intro w hSw; (try dsimp only at hSw); go_simp; done); simp only [Act.put, List.setIfInBounds_toArray, List.set_cons_zero, List.set_cons_succ, List.getElem_toArray, List.getElem_cons_succ, List.getElem_cons_zero])
        | (refine wpAnyH_take (i := 8) (v := ?_) (Array.getElem?_eq_getElem (by decide)) (by kernel_rfl) (by kernel_rfl) (by kernel_rfl) (fun _ _ _ h => h) (Or.inl ⟨by rfl, ?_⟩) (by assumption) ?_; rotate_left; (intro w hSw; (try dsimp only at hSw); go_simp; with_reducible rfl); simp only [Act.put, List.setIfInBounds_toArray, List.set_cons_zero, List.set_cons_succ, List.getElem_toArray, List.getElem_cons_succ, List.getElem_cons_zero])
        | (refine wpAnyH_take (i := 8) (v := undef) (Array.getElem?_eq_getElem (by decide)) (by kernel_rfl) (by kernel_rfl) (by kernel_rfl) (fun _ _ _ h => h) (Or.inr ⟨by rfl, rfl⟩) (by assumption) ?_; simp only [Act.put, List.setIfInBounds_toArray, List.set_cons_zero, List.set_cons_succ, List.getElem_toArray, List.getElem_cons_succ, List.getElem_cons_zero])
        first
        | (refine wpAnyH_take (i := 9) (v := ?_) (Array.getElem?_eq_getElem (by decide)) (by kernel_rfl) (by kernel_rfl) (by kernel_rfl) (fun _ _ _ h => h) (Or.inl ⟨by rfl, ?_⟩) (by assumption) ?_; rotate_left; (intro w hSw; (try dsimp only at hSw); go_simp; done); simp only [Act.put, List.setIfInBounds_toArray, List.set_cons_zero, List.set_cons_succ, List.getElem_toArray, List.getElem_cons_succ, List.getElem_cons_zero])
        | (refine wpAnyH_take (i := 9) (v := ?_) (Array.getElem?_eq_getElem (by decide)) (by kernel_rfl) (by kernel_rfl) (by kernel_rfl) (fun _ _ _ h => h) (Or.inl ⟨by rfl, ?_⟩) (by assumption) ?_; rotate_left; (intro w hSw; (try dsimp only at hSw); go_simp; with_reducible rfl); simp only [Act.put, List.setIfInBounds_toArray, List.set_cons_zero, List.set_cons_succ, List.getElem_toArray, List.getElem_cons_succ, List.getElem_cons_zero])
        | (refine wpAnyH_take (i := 9) (v := undef) (Array.getElem?_eq_getElem (by decide)) (by kernel_rfl) (by kernel_rfl) (by kernel_rfl) (fun _ _ _ h => h) (Or.inr ⟨by rfl, rfl⟩) (by assumption) ?_; simp only [Act.put, List.setIfInBounds_toArray, List.set_cons_zero, List.set_cons_succ, List.getElem_toArray, List.getElem_cons_succ, List.getElem_cons_zero])
        first
        | (refine wpAnyH_take (i := 10) (v := ?_) (Array.getElem?_eq_getElem (by decide)) (by kernel_rfl) (by kernel_rfl) (by kernel_rfl) (fun _ _ _ h => h) (Or.inl ⟨by rfl, ?_⟩) (by assumption) ?_; rotate_left; (intro w hSw; (try dsimp only at hSw); go_simp; done); simp only [Act.put, List.setIfInBounds_toArray, List.set_cons_zero, List.set_cons_succ, List.getElem_toArray, List.getElem_cons_succ, List.getElem_cons_zero])
        | (refine wpAnyH_take (i := 10) (v := ?_) (Array.getElem?_eq_getElem (by decide)) (by kernel_rfl) (by kernel_rfl) (by kernel_rfl) (fun _ _ _ h => h) (Or.inl ⟨by rfl, ?_⟩) (by assumption) ?_; rotate_left; (intro w hSw; (try dsimp only at hSw); go_simp; with_reducible rfl); simp only [Act.put, List.setIfInBounds_toArray, List.set_cons_zero, List.set_cons_succ, List.getElem_toArray, List.getElem_cons_succ, List.getElem_cons_zero])
        | (refine wpAnyH_take (i := 10) (v := undef) (Array.getElem?_eq_getElem (by decide)) (by kernel_rfl) (by kernel_rfl) (by kernel_rfl) (fun _ _ _ h => h) (Or.inr ⟨by rfl, rfl⟩) (by assumption) ?_; simp only [Act.put, List.setIfInBounds_toArray, List.set_cons_zero, List.set_cons_succ, List.getElem_toArray, List.getElem_cons_succ, List.getElem_cons_zero])
        first
        | (refine wpAnyH_take (i := 11) (v := ?_) (Array.getElem?_eq_getElem (by decide)) (by kernel_rfl) (by kernel_rfl) (by kernel_rfl) (fun _ _ _ h => h) (Or.inl ⟨by rfl, ?_⟩) (by assumption) ?_; rotate_left; (intro w hSw; (try dsimp only at hSw); go_simp; done); simp only [Act.put, List.setIfInBounds_toArray, List.set_cons_zero, List.set_cons_succ, List.getElem_toArray, List.getElem_cons_succ, List.getElem_cons_zero])
        | (refine wpAnyH_take (i := 11) (v := ?_) (Array.getElem?_eq_getElem (by decide)) (by kernel_rfl) (by kernel_rfl) (by kernel_rfl) (fun _ _ _ h => h) (Or.inl ⟨by rfl, ?_⟩) (by assumption) ?_; rotate_left; (intro w hSw; (try dsimp only at hSw); go_simp; with_reducible rfl); simp only [Act.put, List.setIfInBounds_toArray, List.set_cons_zero, List.set_cons_succ, List.getElem_toArray, List.getElem_cons_succ, List.getElem_cons_zero])
        | (refine wpAnyH_take (i := 11) (v := undef) (Array.getElem?_eq_getElem (by decide)) (by kernel_rfl) (by kernel_rfl) (by kernel_rfl) (fun _ _ _ h => h) (Or.inr ⟨by rfl, rfl⟩) (by assumption) ?_; simp only [Act.put, List.setIfInBounds_toArray, List.set_cons_zero, List.set_cons_succ, List.getElem_toArray, List.getElem_cons_succ, List.getElem_cons_zero])
        first
        | (refine wpAnyH_take (i := 13) (v := ?_) (Array.getElem?_eq_getElem (by decide)) (by kernel_rfl) (by kernel_rfl) (by kernel_rfl) (fun _ _ _ h => h) (Or.inl ⟨by rfl, ?_⟩) (by assumption) ?_; rotate_left; (intro w hSw; (try dsimp only at hSw); go_simp; done); simp only [Act.put, List.setIfInBounds_toArray, List.set_cons_zero, List.set_cons_succ, List.getElem_toArray, List.getElem_cons_succ, List.getElem_cons_zero])
        | (refine wpAnyH_take (i := 13) (v := ?_) (Array.getElem?_eq_getElem (by decide)) (by kernel_rfl) (by kernel_rfl) (by kernel_rfl) (fun _ _ _ h => h) (Or.inl ⟨by rfl, ?_⟩) (by assumption) ?_; rotate_left; (intro w hSw; (try dsimp only at hSw); go_simp; with_reducible rfl); simp only [Act.put, List.setIfInBounds_toArray, List.set_cons_zero, List.set_cons_succ, List.getElem_toArray, List.getElem_cons_succ, List.getElem_cons_zero])
        | (refine wpAnyH_take (i := 13) (v := undef) (Array.getElem?_eq_getElem (by decide)) (by kernel_rfl) (by kernel_rfl) (by kernel_rfl) (fun _ _ _ h => h) (Or.inr ⟨by rfl, rfl⟩) (by assumption) ?_; simp only [Act.put, List.setIfInBounds_toArray, List.set_cons_zero, List.set_cons_succ, List.getElem_toArray, List.getElem_cons_succ, List.getElem_cons_zero])
        first
        | (refine wpAnyH_take (i := 14) (v := ?_) (Array.getElem?_eq_getElem (by decide)) (by kernel_rfl) (by kernel_rfl) (by kernel_rfl) (fun _ _ _ h => h) (Or.inl ⟨by rfl, ?_⟩) (by assumption) ?_; rotate_left; (intro w hSw; (try dsimp only at hSw); go_simp; done); simp only [Act.put, List.setIfInBounds_toArray, List.set_cons_zero, List.set_cons_succ, List.getElem_toArray, List.getElem_cons_succ, List.getElem_cons_zero])
        | (refine wpAnyH_take (i := 14) (v := ?_) (Array.getElem?_eq_getElem (by decide)) (by kernel_rfl) (by kernel_rfl) (by kernel_rfl) (fun _ _ _ h => h) (Or.inl ⟨by rfl, ?_⟩) (by assumption) ?_; rotate_left; (intro w hSw; (try dsimp only at hSw); go_simp; with_reducible rfl); simp only [Act.put, List.setIfInBounds_toArray, List.set_cons_zero, List.set_cons_succ, List.getElem_toArray, List.getElem_cons_succ, List.getElem_cons_zero])
        | (refine wpAnyH_take (i := 14) (v := undef) (Array.getElem?_eq_getElem (by decide)) (by kernel_rfl) (by kernel_rfl) (by kernel_rfl) (fun _ _ _ h => h) (Or.inr ⟨by rfl, rfl⟩) (by assumption) ?_; simp only [Act.put, List.setIfInBounds_toArray, List.set_cons_zero, List.set_cons_succ, List.getElem_toArray, List.getElem_cons_succ, List.getElem_cons_zero])
        first
        | (refine wpAnyH_take (i := 15) (v := ?_) (Array.getElem?_eq_getElem (by decide)) (by kernel_rfl) (by kernel_rfl) (by kernel_rfl) (fun _ _ _ h => h) (Or.inl ⟨by rfl, ?_⟩) (by assumption) ?_; rotate_left; (intro w hSw; (try dsimp only at hSw); go_simp; done); simp only [Act.put, List.setIfInBounds_toArray, List.set_cons_zero, List.set_cons_succ, List.getElem_toArray, List.getElem_cons_succ, List.getElem_cons_zero])
        | (refine wpAnyH_take (i := 15) (v := ?_) (Array.getElem?_eq_getElem (by decide)) (by kernel_rfl) (by kernel_rfl) (by kernel_rfl) (fun _ _ _ h => h) (Or.inl ⟨by rfl, ?_⟩) (by assumption) ?_; rotate_left; (intro w hSw; (try dsimp only at hSw); go_simp; with_reducible rfl); simp only [Act.put, List.setIfInBounds_toArray, List.set_cons_zero, List.set_cons_succ, List.getElem_toArray, List.getElem_cons_succ, List.getElem_cons_zero])
        | (refine wpAnyH_take (i := 15) (v := undef) (Array.getElem?_eq_getElem (by decide)) (by kernel_rfl) (by kernel_rfl) (by kernel_rfl) (fun _ _ _ h => h) (Or.inr ⟨by rfl, rfl⟩) (by assumption) ?_; simp only [Act.put, List.setIfInBounds_toArray, List.set_cons_zero, List.set_cons_succ, List.getElem_toArray, List.getElem_cons_succ, List.getElem_cons_zero])
        refine wpAnyH_ready (rs := [12]) (by kernel_rfl) (by simp) ?_
        refine AllReadyH.cons rfl (fun K hK => ?_) AllReadyH.nil
        go_simp
        go_at_call 16
        (with_reducible refine (KFd.out _ (And.left (by assumption))).mono ?_)
        rintro e v12 ⟨rfl, hq12⟩
        refine hK.out _ _ (held_of (Kept.trans (And.left (by assumption)) (by assumption))) (fun hHeld12 => ?_)
        clear hK K
        try simp only [Act.put, List.setIfInBounds_toArray, List.set_cons_zero, List.set_cons_succ, List.getElem_toArray, List.getElem_cons_succ, List.getElem_cons_zero]
        first
        | (refine wpAnyH_take (i := 16) (v := ?_) (Array.getElem?_eq_getElem (by decide)) (by kernel_rfl) (by kernel_rfl) (by kernel_rfl) (fun _ _ _ h => h) (Or.inl ⟨by rfl, ?_⟩) (by assumption) ?_; rotate_left; (intro w hSw; (try dsimp only at hSw); go_simp; done); simp only [Act.put, List.setIfInBounds_toArray, List.set_cons_zero, List.set_cons_succ, List.getElem_toArray, List.getElem_cons_succ, List.getElem_cons_zero])
        | (refine wpAnyH_take (i := 16) (v := ?_) (Array.getElem?_eq_getElem (by decide)) (by kernel_rfl) (by kernel_rfl) (by kernel_rfl) (fun _ _ _ h => h) (Or.inl ⟨by rfl, ?_⟩) (by assumption) ?_; rotate_left; (intro w hSw; (try dsimp only at hSw); go_simp; with_reducible rfl); simp only [Act.put, List.setIfInBounds_toArray, List.set_cons_zero, List.set_cons_succ, List.getElem_toArray, List.getElem_cons_succ, List.getElem_cons_zero])
        | (refine wpAnyH_take (i := 16) (v := undef) (Array.getElem?_eq_getElem (by decide)) (by kernel_rfl) (by kernel_rfl) (by kernel_rfl) (fun _ _ _ h => h) (Or.inr ⟨by rfl, rfl⟩) (by assumption) ?_; simp only [Act.put, List.setIfInBounds_toArray, List.set_cons_zero, List.set_cons_succ, List.getElem_toArray, List.getElem_cons_succ, List.getElem_cons_zero])
        first
        | (refine wpAnyH_take (i := 17) (v := ?_) (Array.getElem?_eq_getElem (by decide)) (by kernel_rfl) (by kernel_rfl) (by kernel_rfl) (fun _ _ _ h => h) (Or.inl ⟨by rfl, ?_⟩) (by assumption) ?_; rotate_left; (intro w hSw; (try dsimp only at hSw); go_simp; done); simp only [Act.put, List.setIfInBounds_toArray, List.set_cons_zero, List.set_cons_succ, List.getElem_toArray, List.getElem_cons_succ, List.getElem_cons_zero])
        | (refine wpAnyH_take (i := 17) (v := ?_) (Array.getElem?_eq_getElem (by decide)) (by kernel_rfl) (by kernel_rfl) (by kernel_rfl) (fun _ _ _ h => h) (Or.inl ⟨by rfl, ?_⟩) (by assumption) ?_; rotate_left; (intro w hSw; (try dsimp only at hSw); go_simp; with_reducible rfl); simp only [Act.put, List.setIfInBounds_toArray, List.set_cons_zero, List.set_cons_succ, List.getElem_toArray, List.getElem_cons_succ, List.getElem_cons_zero])
        | (refine wpAnyH_take (i := 17) (v := undef) (Array.getElem?_eq_getElem (by decide)) (by kernel_rfl) (by kernel_rfl) (by kernel_rfl) (fun _ _ _ h => h) (Or.inr ⟨by rfl, rfl⟩) (by assumption) ?_; simp only [Act.put, List.setIfInBounds_toArray, List.set_cons_zero, List.set_cons_succ, List.getElem_toArray, List.getElem_cons_succ, List.getElem_cons_zero])
        first
        | (refine wpAnyH_take (i := 18) (v := ?_) (Array.getElem?_eq_getElem (by decide)) (by kernel_rfl) (by kernel_rfl) (by kernel_rfl) (fun _ _ _ h => h) (Or.inl ⟨by rfl, ?_⟩) (by assumption) ?_; rotate_left; (intro w hSw; (try dsimp only at hSw); go_simp; done); simp only [Act.put, List.setIfInBounds_toArray, List.set_cons_zero, List.set_cons_succ, List.getElem_toArray, List.getElem_cons_succ, List.getElem_cons_zero])
        | (refine wpAnyH_take (i := 18) (v := ?_) (Array.getElem?_eq_getElem (by decide)) (by kernel_rfl) (by kernel_rfl) (by kernel_rfl) (fun _ _ _ h => h) (Or.inl ⟨by rfl, ?_⟩) (by assumption) ?_; rotate_left; (intro w hSw; (try dsimp only at hSw); go_simp; with_reducible rfl); simp only [Act.put, List.setIfInBounds_toArray, List.set_cons_zero, List.set_cons_succ, List.getElem_toArray, List.getElem_cons_succ, List.getElem_cons_zero])
        | (refine wpAnyH_take (i := 18) (v := undef) (Array.getElem?_eq_getElem (by decide)) (by kernel_rfl) (by kernel_rfl) (by kernel_rfl) (fun _ _ _ h => h) (Or.inr ⟨by rfl, rfl⟩) (by assumption) ?_; simp only [Act.put, List.setIfInBounds_toArray, List.set_cons_zero, List.set_cons_succ, List.getElem_toArray, List.getElem_cons_succ, List.getElem_cons_zero])
        refine wpAnyH_done (by kernel_rfl) ?_ _
        have hkv : Kept w6 v12 := And.left (by assumption)
        have hk0v : Kept w v12 := Kept.trans hk03 (Kept.trans hk36 hkv)
        have hk3v : Kept w3 v12 := Kept.trans hk36 hkv
        have hzv : w.heap.size + 1 < v12.heap.size := Nat.lt_of_lt_of_le hz3 hk3v.size
        clear d0 d1 d2 hz6 hzc6 hzc60 a0 a1 a2 b0 hkv
        generalize v12 = v at *
        have hzv0 : w.heap.size < v.heap.size := by omega
        have a0 := (hk3v.cell _ _ (by omega)).trans (HB.out 0 _ rfl)
        have a1 := (hk3v.cell _ _ (by omega)).trans (HB.out 1 _ rfl)
        have a2 := (hk3v.cell _ _ (by omega)).trans (HB.out 2 _ rfl)
        by_cases hm : M.length = 0
        · have hm2 : ((M.length : Int) == 0) = true := by rw [hm]; rfl
          go_wp2
          go_ret
          exact ⟨rfl, hk0v⟩
        · have hm2 : ((M.length : Int) == 0) = false := beq_false_of_ne (by omega)
          have hm3 : ¬ (M.length : Int) = 0 := by omega
          go_wp2_with fail
          obtain ⟨kn, hkn⟩ : ∃ kn : Nat, n % (M.length : Int) = kn := ⟨(n % (M.length : Int)).toNat, by have := Int.emod_nonneg n hm3; omega⟩
          have hkl : kn < M.length := by have := Int.emod_lt_of_pos n (show 0 < (M.length : Int) by omega); omega
          rw [hkn]
          go_at_call 20
          refine (KP.out _ hk0v).mono ?_
          rintro e w8 ⟨hk8, o3, c3, o4, c4, rfl, r3, r4⟩
          obtain ⟨b', off', rfl, _⟩ := HM.out kn hkl
          obtain ⟨g4, cap4, hv4, hb4, hl4⟩ := r4.form (by omega)
          injection hv4 with hv4 _ hv5
          subst hv4 hv5
          have hcap := owns_cap r4 rfl
          have hk08 := hk0v.trans hk8
          have hk38 := hk3v.trans hk8
          clear a0 a1 a2 hzv hzv0
          have RE := Lib.hid (recs_of_owns' r4)
          have RL3 := Lib.hid (recs_of_owns' r3)
          clear r3 r4 hk0v hk3v
          have hz8 : w.heap.size + 1 < w8.heap.size := Nat.lt_of_lt_of_le hz3 hk38.size
          have hz80 : w.heap.size < w8.heap.size := by omega
          have a0 := (hk38.cell _ _ (by omega)).trans (HB.out 0 _ rfl)
          have a1 := (hk38.cell _ _ (by omega)).trans (HB.out 1 _ rfl)
          have a2 := (hk38.cell _ _ (by omega)).trans (HB.out 2 _ rfl)
          have P1 : Hid ((recs (M.take kn)).length = kn * 9) := (show _ = _ from by rw [recs_len, List.length_take, Nat.min_eq_left (by omega)])
          have P2 := Lib.hid (fun w' (k : Kept w8 w') => recs_cells ((RE.out.take kn).kept k))
          have P3 : Hid ((recs (M.drop (kn + 1))).length = (M.length - (kn + 1)) * 9) := (show _ = _ from by rw [recs_len, List.length_drop])
          have P4 := Lib.hid (fun w' (k : Kept w8 w') => recs_cells ((HM.out.drop (kn + 1)).kept (hk08.trans k)))
          have hkb : (kn : Int) < 31 := by omega
          have hk00 : (0 : Int) ≤ (kn : Int) := by omega
          have hkw : IntKind.i64.wrap ((kn : Int) + 1) = (kn : Int) + 1 := wrap_small _ (by omega) (by omega)
          have hkt : ((kn : Int) + 1).toNat = kn + 1 := by omega
          have hk01 : (0 : Int) ≤ (kn : Int) + 1 := by omega
          have hkc : (kn : Int) ≤ (c4 : Int) := by omega
          have hkm : (kn : Int) + 1 ≤ (M.length : Int) := by omega
          go_wp2_with fail
          obtain ⟨W9, hW9⟩ : ∃ x, x = w8.alloc (.cells #[.int .i64 f, .slice o3 L.length c3, .slice (some ⟨g4, 0, none⟩) M.length c4] 25) := ⟨_, rfl⟩
          rw [← hW9]
          have hk9 : Kept w8 W9 := by rw [hW9]; exact (Kept.refl w8).alloc _
          have hz9 : w8.heap.size < W9.heap.size := by rw [hW9]; simp
          have y0 : W9.cell? ⟨w8.heap.size, 0, none⟩ = some (.int .i64 f) := by rw [hW9, cell_here]; rfl
          have y1 : W9.cell? ⟨w8.heap.size, 1, none⟩ = some (.slice o3 L.length c3) := by rw [hW9, cell_here]; rfl
          have y2 : W9.cell? ⟨w8.heap.size, 2, none⟩ = some (.slice (some ⟨g4, 0, none⟩) M.length c4) := by rw [hW9, cell_here]; rfl
          have f0 : W9.frozen? ⟨w8.heap.size, 0, none⟩ = false := by rw [hW9]; simp
          have f1 : W9.frozen? ⟨w8.heap.size, 1, none⟩ = false := by rw [hW9]; simp
          have f2 : W9.frozen? ⟨w8.heap.size, 2, none⟩ = false := by rw [hW9]; simp
          have v0 := (hk9.cell _ _ hz80).trans a0
          have v1 := (hk9.cell _ _ hz80).trans a1
          have v2 := (hk9.cell _ _ hz80).trans a2
          clear hW9 a0 a1 a2
          by_cases hlast : kn + 1 = M.length
          · have hz0 : M.length - (kn + 1) = 0 := by omega
            go_region_law (refine step_append_zero (by rfl) _ _ _ (by rfl) 31 iF Try.underlying23 hiF g4 0 kn kn (by rfl) (Nat.le_refl _) _ _ (by rfl) ?_)
            all_goals (
              go_wp2_with fail
              all_goals (
                obtain ⟨X, hX⟩ : ∃ x, x = (W9.setCell ⟨w8.heap.size, 2, none⟩ (.slice (some ⟨g4, 0, none⟩) kn kn)).drew := ⟨_, rfl⟩
                rw [← hX]
                have hkX : Kept w8 X := by rw [hX]; exact (Kept.setCell hk9 (Nat.le_refl _) _).drew
                have d0 : X.cell? ⟨w8.heap.size, 0, none⟩ = some (.int .i64 f) := by rw [hX]; exact (World.cell?_setCell_far2 (by decide)).trans y0
                have d1 : X.cell? ⟨w8.heap.size, 1, none⟩ = some (.slice o3 L.length c3) := by rw [hX]; exact (World.cell?_setCell_far2 (by decide)).trans y1
                have d2 : X.cell? ⟨w8.heap.size, 2, none⟩ = some (.slice (some ⟨g4, 0, none⟩) kn kn) := by rw [hX]; exact World.cell?_setCell_same' _ _ _ (by rw [y2]; rfl)
                have hzX8 : w8.heap.size < X.heap.size := by rw [hX]; show _ < (W9.setCell _ _).heap.size; rw [World.size_setCell]; exact hz9
                clear hX
                have hEl : (M.take kn ++ M.drop (kn + 1)).length = kn := by rw [List.length_append, List.length_take, List.length_drop]; omega
                have hRF : IsRecs X (some ⟨g4, 0, none⟩) (M.take kn ++ M.drop (kn + 1)) := by
                  rw [List.drop_eq_nil_of_le (by omega), List.append_nil]
                  exact (RE.out.take kn).kept hkX
                have hk3X : Kept w3 X := hk38.trans hkX
                have hk0X : Kept w X := hk08.trans hkX
                have hzX3 : w.heap.size + 1 < X.heap.size := Nat.lt_of_lt_of_le hz3 hk3X.size
                have hzX0 : w.heap.size < X.heap.size := by omega
                have hzX : w8.heap.size < X.heap.size := hzX8
                have a0 := (hk3X.cell _ _ (by omega)).trans (HB.out 0 _ rfl)
                have a1 := (hk3X.cell _ _ (by omega)).trans (HB.out 1 _ rfl)
                have a2 := (hk3X.cell _ _ (by omega)).trans (HB.out 2 _ rfl)
                obtain ⟨bb, ob, eb, i0, _⟩ := (HM.out.kept hk0X).cells kn hkl
                injection eb with eb
                injection eb with eb1 eb2 _
                subst eb1 eb2
                have hzi := lt_cellL i0
                obtain ⟨gg1, gg2⟩ := falls f L M kn hkl HC.out
                have okE : ∀ r ∈ M.take kn ++ M.drop (kn + 1), r.ok := fun r hr => by
                  rw [List.mem_append] at hr
                  rcases hr with hr | hr
                  · exact HkM.out r (List.mem_of_mem_take hr)
                  · exact HkM.out r (List.mem_of_mem_drop hr)
                have KE := Lib.hid (fun w' (k : Kept X w') => CCheck_any f o3 (some ⟨g4, 0, none⟩) c3 kn L (M.take kn ++ M.drop (kn + 1)) w' (RL3.out.kept (hkX.trans k)) (hRF.kept k) HkL.out okE)
                have KG := Lib.hid (fun w' (k : Kept X w') => Find_any f o3 (some ⟨g4, 0, none⟩) c3 kn L (M.take kn ++ M.drop (kn + 1)) (M[kn]!).s w' (hRF.kept k) (by rw [hEl]; omega))
                rw [gg1, chV_t, hEl] at KE
                rw [gg2, hEl] at KG
                generalize (M[kn]!).s = id at *
                clear okE gg1 gg2 hRF RL3 RE HM HL HkM HkL HC KP KI HB HE HF HO P1 P2 P3 P4 hkX hk3X
                clear hk8 hk9 hz9 y0 y1 y2 f0 f1 f2 v0 v1 v2
                go_wp2_with fail
                refine wp_region_held_drew (S := fun w' => Kept (X) w' ∧ (∀ b o, b < (X).heap.size → w'.cell? ⟨b, o, none⟩ = (X).cell? ⟨b, o, none⟩)) (by kernel_rfl) (held_of (Kept.drew (Kept.refl _))) (fun hHeld => ?_)
                first
                | (refine wpAnyH_take (i := 0) (v := ?_) (Array.getElem?_eq_getElem (by decide)) (by kernel_rfl) (by kernel_rfl) (by kernel_rfl) (fun _ _ _ h => h) (Or.inl ⟨by rfl, ?_⟩) (by assumption) ?_; rotate_left; (intro w hSw; (try dsimp only at hSw); go_simp; done); simp only [Act.put, List.setIfInBounds_toArray, List.set_cons_zero, List.set_cons_succ, List.getElem_toArray, List.getElem_cons_succ, List.getElem_cons_zero])
                | (refine wpAnyH_take (i := 0) (v := ?_) (Array.getElem?_eq_getElem (by decide)) (by kernel_rfl) (by kernel_rfl) (by kernel_rfl) (fun _ _ _ h => h) (Or.inl ⟨by rfl, ?_⟩) (by assumption) ?_; rotate_left; (intro w hSw; (try dsimp only at hSw); go_simp; with_reducible rfl); simp only [Act.put, List.setIfInBounds_toArray, List.set_cons_zero, List.set_cons_succ, List.getElem_toArray, List.getElem_cons_succ, List.getElem_cons_zero])
                | (refine wpAnyH_take (i := 0) (v := undef) (Array.getElem?_eq_getElem (by decide)) (by kernel_rfl) (by kernel_rfl) (by kernel_rfl) (fun _ _ _ h => h) (Or.inr ⟨by rfl, rfl⟩) (by assumption) ?_; simp only [Act.put, List.setIfInBounds_toArray, List.set_cons_zero, List.set_cons_succ, List.getElem_toArray, List.getElem_cons_succ, List.getElem_cons_zero])
                refine wpAnyH_ready (rs := [1]) (by kernel_rfl) (by simp) ?_
                refine AllReadyH.cons rfl (fun K hK => ?_) AllReadyH.nil
                go_simp
                go_at_call 14
                (with_reducible refine (KE.out _ (And.left (by assumption))).mono ?_)
                rintro e v1 ⟨rfl, hq1⟩
                refine hK.out _ _ (held_of (Kept.trans (And.left (by assumption)) (by assumption))) (fun hHeld1 => ?_)
                clear hK K
                try simp only [Act.put, List.setIfInBounds_toArray, List.set_cons_zero, List.set_cons_succ, List.getElem_toArray, List.getElem_cons_succ, List.getElem_cons_zero]
                first
                | (refine wpAnyH_take (i := 2) (v := ?_) (Array.getElem?_eq_getElem (by decide)) (by kernel_rfl) (by kernel_rfl) (by kernel_rfl) (fun _ _ _ h => h) (Or.inl ⟨by rfl, ?_⟩) (by assumption) ?_; rotate_left; (intro w hSw; (try dsimp only at hSw); go_simp; done); simp only [Act.put, List.setIfInBounds_toArray, List.set_cons_zero, List.set_cons_succ, List.getElem_toArray, List.getElem_cons_succ, List.getElem_cons_zero])
                | (refine wpAnyH_take (i := 2) (v := ?_) (Array.getElem?_eq_getElem (by decide)) (by kernel_rfl) (by kernel_rfl) (by kernel_rfl) (fun _ _ _ h => h) (Or.inl ⟨by rfl, ?_⟩) (by assumption) ?_; rotate_left; (intro w hSw; (try dsimp only at hSw); go_simp; with_reducible rfl); simp only [Act.put, List.setIfInBounds_toArray, List.set_cons_zero, List.set_cons_succ, List.getElem_toArray, List.getElem_cons_succ, List.getElem_cons_zero])
                | (refine wpAnyH_take (i := 2) (v := undef) (Array.getElem?_eq_getElem (by decide)) (by kernel_rfl) (by kernel_rfl) (by kernel_rfl) (fun _ _ _ h => h) (Or.inr ⟨by rfl, rfl⟩) (by assumption) ?_; simp only [Act.put, List.setIfInBounds_toArray, List.set_cons_zero, List.set_cons_succ, List.getElem_toArray, List.getElem_cons_succ, List.getElem_cons_zero])
                first
                | (refine wpAnyH_take (i := 3) (v := ?_) (Array.getElem?_eq_getElem (by decide)) (by kernel_rfl) (by kernel_rfl) (by kernel_rfl) (fun _ _ _ h => h) (Or.inl ⟨by rfl, ?_⟩) (by assumption) ?_; rotate_left; (intro w hSw; (try dsimp only at hSw); go_simp; done); simp only [Act.put, List.setIfInBounds_toArray, List.set_cons_zero, List.set_cons_succ, List.getElem_toArray, List.getElem_cons_succ, List.getElem_cons_zero])
                | (refine wpAnyH_take (i := 3) (v := ?_) (Array.getElem?_eq_getElem (by decide)) (by kernel_rfl) (by kernel_rfl) (by kernel_rfl) (fun _ _ _ h => h) (Or.inl ⟨by rfl, ?_⟩) (by assumption) ?_; rotate_left; (intro w hSw; (try dsimp only at hSw); go_simp; with_reducible rfl); simp only [Act.put, List.setIfInBounds_toArray, List.set_cons_zero, List.set_cons_succ, List.getElem_toArray, List.getElem_cons_succ, List.getElem_cons_zero])
                | (refine wpAnyH_take (i := 3) (v := undef) (Array.getElem?_eq_getElem (by decide)) (by kernel_rfl) (by kernel_rfl) (by kernel_rfl) (fun _ _ _ h => h) (Or.inr ⟨by rfl, rfl⟩) (by assumption) ?_; simp only [Act.put, List.setIfInBounds_toArray, List.set_cons_zero, List.set_cons_succ, List.getElem_toArray, List.getElem_cons_succ, List.getElem_cons_zero])
                first
                | (refine wpAnyH_take (i := 4) (v := ?_) (Array.getElem?_eq_getElem (by decide)) (by kernel_rfl) (by kernel_rfl) (by kernel_rfl) (fun _ _ _ h => h) (Or.inl ⟨by rfl, ?_⟩) (by assumption) ?_; rotate_left; (intro w hSw; (try dsimp only at hSw); go_simp; done); simp only [Act.put, List.setIfInBounds_toArray, List.set_cons_zero, List.set_cons_succ, List.getElem_toArray, List.getElem_cons_succ, List.getElem_cons_zero])
                | (refine wpAnyH_take (i := 4) (v := ?_) (Array.getElem?_eq_getElem (by decide)) (by kernel_rfl) (by kernel_rfl) (by kernel_rfl) (fun _ _ _ h => h) (Or.inl ⟨by rfl, ?_⟩) (by assumption) ?_; rotate_left; (intro w hSw; (try dsimp only at hSw); go_simp; with_reducible rfl); simp only [Act.put, List.setIfInBounds_toArray, List.set_cons_zero, List.set_cons_succ, List.getElem_toArray, List.getElem_cons_succ, List.getElem_cons_zero])
                | (refine wpAnyH_take (i := 4) (v := undef) (Array.getElem?_eq_getElem (by decide)) (by kernel_rfl) (by kernel_rfl) (by kernel_rfl) (fun _ _ _ h => h) (Or.inr ⟨by rfl, rfl⟩) (by assumption) ?_; simp only [Act.put, List.setIfInBounds_toArray, List.set_cons_zero, List.set_cons_succ, List.getElem_toArray, List.getElem_cons_succ, List.getElem_cons_zero])
                first
                | (refine wpAnyH_take (i := 5) (v := ?_) (Array.getElem?_eq_getElem (by decide)) (by kernel_rfl) (by kernel_rfl) (by kernel_rfl) (fun _ _ _ h => h) (Or.inl ⟨by rfl, ?_⟩) (by assumption) ?_; rotate_left; (intro w hSw; (try dsimp only at hSw); go_simp; done); simp only [Act.put, List.setIfInBounds_toArray, List.set_cons_zero, List.set_cons_succ, List.getElem_toArray, List.getElem_cons_succ, List.getElem_cons_zero])
                | (refine wpAnyH_take (i := 5) (v := ?_) (Array.getElem?_eq_getElem (by decide)) (by kernel_rfl) (by kernel_rfl) (by kernel_rfl) (fun _ _ _ h => h) (Or.inl ⟨by rfl, ?_⟩) (by assumption) ?_; rotate_left; (intro w hSw; (try dsimp only at hSw); go_simp; with_reducible rfl); simp only [Act.put, List.setIfInBounds_toArray, List.set_cons_zero, List.set_cons_succ, List.getElem_toArray, List.getElem_cons_succ, List.getElem_cons_zero])
                | (refine wpAnyH_take (i := 5) (v := undef) (Array.getElem?_eq_getElem (by decide)) (by kernel_rfl) (by kernel_rfl) (by kernel_rfl) (fun _ _ _ h => h) (Or.inr ⟨by rfl, rfl⟩) (by assumption) ?_; simp only [Act.put, List.setIfInBounds_toArray, List.set_cons_zero, List.set_cons_succ, List.getElem_toArray, List.getElem_cons_succ, List.getElem_cons_zero])
                first
                | (refine wpAnyH_take (i := 6) (v := ?_) (Array.getElem?_eq_getElem (by decide)) (by kernel_rfl) (by kernel_rfl) (by kernel_rfl) (fun _ _ _ h => h) (Or.inl ⟨by rfl, ?_⟩) (by assumption) ?_; rotate_left; (intro w hSw; (try dsimp only at hSw); go_simp; done); simp only [Act.put, List.setIfInBounds_toArray, List.set_cons_zero, List.set_cons_succ, List.getElem_toArray, List.getElem_cons_succ, List.getElem_cons_zero])
                | (refine wpAnyH_take (i := 6) (v := ?_) (Array.getElem?_eq_getElem (by decide)) (by kernel_rfl) (by kernel_rfl) (by kernel_rfl) (fun _ _ _ h => h) (Or.inl ⟨by rfl, ?_⟩) (by assumption) ?_; rotate_left; (intro w hSw; (try dsimp only at hSw); go_simp; with_reducible rfl); simp only [Act.put, List.setIfInBounds_toArray, List.set_cons_zero, List.set_cons_succ, List.getElem_toArray, List.getElem_cons_succ, List.getElem_cons_zero])
                | (refine wpAnyH_take (i := 6) (v := undef) (Array.getElem?_eq_getElem (by decide)) (by kernel_rfl) (by kernel_rfl) (by kernel_rfl) (fun _ _ _ h => h) (Or.inr ⟨by rfl, rfl⟩) (by assumption) ?_; simp only [Act.put, List.setIfInBounds_toArray, List.set_cons_zero, List.set_cons_succ, List.getElem_toArray, List.getElem_cons_succ, List.getElem_cons_zero])
                first
                | (refine wpAnyH_take (i := 7) (v := ?_) (Array.getElem?_eq_getElem (by decide)) (by kernel_rfl) (by kernel_rfl) (by kernel_rfl) (fun _ _ _ h => h) (Or.inl ⟨by rfl, ?_⟩) (by assumption) ?_; rotate_left; (intro w hSw; (try dsimp only at hSw); go_simp; done); simp only [Act.put, List.setIfInBounds_toArray, List.set_cons_zero, List.set_cons_succ, List.getElem_toArray, List.getElem_cons_succ, List.getElem_cons_zero])
                | (refine wpAnyH_take (i := 7) (v := ?_) (Array.getElem?_eq_getElem (by decide)) (by kernel_rfl) (by kernel_rfl) (by kernel_rfl) (fun _ _ _ h => h) (Or.inl ⟨by rfl, ?_⟩) (by assumption) ?_; rotate_left; (intro w hSw; (try dsimp only at hSw); go_simp; with_reducible rfl); simp only [Act.put, List.setIfInBounds_toArray, List.set_cons_zero, List.set_cons_succ, List.getElem_toArray, List.getElem_cons_succ, List.getElem_cons_zero])
                | (refine wpAnyH_take (i := 7) (v := undef) (Array.getElem?_eq_getElem (by decide)) (by kernel_rfl) (by kernel_rfl) (by kernel_rfl) (fun _ _ _ h => h) (Or.inr ⟨by rfl, rfl⟩) (by assumption) ?_; simp only [Act.put, List.setIfInBounds_toArray, List.set_cons_zero, List.set_cons_succ, List.getElem_toArray, List.getElem_cons_succ, List.getElem_cons_zero])
                first
                | (refine wpAnyH_take (i := 8) (v := ?_) (Array.getElem?_eq_getElem (by decide)) (by kernel_rfl) (by kernel_rfl) (by kernel_rfl) (fun _ _ _ h => h) (Or.inl ⟨by rfl, ?_⟩) (by assumption) ?_; rotate_left; (intro w hSw; (try dsimp only at hSw); go_simp; done); simp only [Act.put, List.setIfInBounds_toArray, List.set_cons_zero, List.set_cons_succ, List.getElem_toArray, List.getElem_cons_succ, List.getElem_cons_zero])
                | (refine wpAnyH_take (i := 8) (v := ?_) (Array.getElem?_eq_getElem (by decide)) (by kernel_rfl) (by kernel_rfl) (by kernel_rfl) (fun _ _ _ h => h) (Or.inl ⟨by rfl, ?_⟩) (by assumption) ?_; rotate_left; (intro w hSw; (try dsimp only at hSw); go_simp; with_reducible rfl); simp only [Act.put, List.setIfInBounds_toArray, List.set_cons_zero, List.set_cons_succ, List.getElem_toArray, List.getElem_cons_succ, List.getElem_cons_zero])
                | (refine wpAnyH_take (i := 8) (v := undef) (Array.getElem?_eq_getElem (by decide)) (by kernel_rfl) (by kernel_rfl) (by kernel_rfl) (fun _ _ _ h => h) (Or.inr ⟨by rfl, rfl⟩) (by assumption) ?_; simp only [Act.put, List.setIfInBounds_toArray, List.set_cons_zero, List.set_cons_succ, List.getElem_toArray, List.getElem_cons_succ, List.getElem_cons_zero])
                first
                | (refine wpAnyH_take (i := 9) (v := ?_) (Array.getElem?_eq_getElem (by decide)) (by kernel_rfl) (by kernel_rfl) (by kernel_rfl) (fun _ _ _ h => h) (Or.inl ⟨by rfl, ?_⟩) (by assumption) ?_; rotate_left; (intro w hSw; (try dsimp only at hSw); go_simp; done); simp only [Act.put, List.setIfInBounds_toArray, List.set_cons_zero, List.set_cons_succ, List.getElem_toArray, List.getElem_cons_succ, List.getElem_cons_zero])
                | (refine wpAnyH_take (i := 9) (v := ?_) (Array.getElem?_eq_getElem (by decide)) (by kernel_rfl) (by kernel_rfl) (by kernel_rfl) (fun _ _ _ h => h) (Or.inl ⟨by rfl, ?_⟩) (by assumption) ?_; rotate_left; (intro w hSw; (try dsimp only at hSw); go_simp; with_reducible rfl); simp only [Act.put, List.setIfInBounds_toArray, List.set_cons_zero, List.set_cons_succ, List.getElem_toArray, List.getElem_cons_succ, List.getElem_cons_zero])
                | (refine wpAnyH_take (i := 9) (v := undef) (Array.getElem?_eq_getElem (by decide)) (by kernel_rfl) (by kernel_rfl) (by kernel_rfl) (fun _ _ _ h => h) (Or.inr ⟨by rfl, rfl⟩) (by assumption) ?_; simp only [Act.put, List.setIfInBounds_toArray, List.set_cons_zero, List.set_cons_succ, List.getElem_toArray, List.getElem_cons_succ, List.getElem_cons_zero])
                first
                | (refine wpAnyH_take (i := 10) (v := ?_) (Array.getElem?_eq_getElem (by decide)) (by kernel_rfl) (by kernel_rfl) (by kernel_rfl) (fun _ _ _ h => h) (Or.inl ⟨by rfl, ?_⟩) (by assumption) ?_; rotate_left; (intro w hSw; (try dsimp only at hSw); go_simp; done); simp only [Act.put, List.setIfInBounds_toArray, List.set_cons_zero, List.set_cons_succ, List.getElem_toArray, List.getElem_cons_succ, List.getElem_cons_zero])
                | (refine wpAnyH_take (i := 10) (v := ?_) (Array.getElem?_eq_getElem (by decide)) (by kernel_rfl) (by kernel_rfl) (by kernel_rfl) (fun _ _ _ h => h) (Or.inl ⟨by rfl, ?_⟩) (by assumption) ?_; rotate_left; (intro w hSw; (try dsimp only at hSw); go_simp; with_reducible rfl); simp only [Act.put, List.setIfInBounds_toArray, List.set_cons_zero, List.set_cons_succ, List.getElem_toArray, List.getElem_cons_succ, List.getElem_cons_zero])
                | (refine wpAnyH_take (i := 10) (v := undef) (Array.getElem?_eq_getElem (by decide)) (by kernel_rfl) (by kernel_rfl) (by kernel_rfl) (fun _ _ _ h => h) (Or.inr ⟨by rfl, rfl⟩) (by assumption) ?_; simp only [Act.put, List.setIfInBounds_toArray, List.set_cons_zero, List.set_cons_succ, List.getElem_toArray, List.getElem_cons_succ, List.getElem_cons_zero])
                refine wpAnyH_ready (rs := [11]) (by kernel_rfl) (by simp) ?_
                refine AllReadyH.cons rfl (fun K hK => ?_) AllReadyH.nil
                go_simp
                go_at_call 16
                (with_reducible refine (KG.out _ (And.left (by assumption))).mono ?_)
                rintro e v11 ⟨rfl, hq11⟩
                refine hK.out _ _ (held_of (Kept.trans (And.left (by assumption)) (by assumption))) (fun hHeld11 => ?_)
                clear hK K
                try simp only [Act.put, List.setIfInBounds_toArray, List.set_cons_zero, List.set_cons_succ, List.getElem_toArray, List.getElem_cons_succ, List.getElem_cons_zero]
                first
                | (refine wpAnyH_take (i := 12) (v := ?_) (Array.getElem?_eq_getElem (by decide)) (by kernel_rfl) (by kernel_rfl) (by kernel_rfl) (fun _ _ _ h => h) (Or.inl ⟨by rfl, ?_⟩) (by assumption) ?_; rotate_left; (intro w hSw; (try dsimp only at hSw); go_simp; done); simp only [Act.put, List.setIfInBounds_toArray, List.set_cons_zero, List.set_cons_succ, List.getElem_toArray, List.getElem_cons_succ, List.getElem_cons_zero])
                | (refine wpAnyH_take (i := 12) (v := ?_) (Array.getElem?_eq_getElem (by decide)) (by kernel_rfl) (by kernel_rfl) (by kernel_rfl) (fun _ _ _ h => h) (Or.inl ⟨by rfl, ?_⟩) (by assumption) ?_; rotate_left; (intro w hSw; (try dsimp only at hSw); go_simp; with_reducible rfl); simp only [Act.put, List.setIfInBounds_toArray, List.set_cons_zero, List.set_cons_succ, List.getElem_toArray, List.getElem_cons_succ, List.getElem_cons_zero])
                | (refine wpAnyH_take (i := 12) (v := undef) (Array.getElem?_eq_getElem (by decide)) (by kernel_rfl) (by kernel_rfl) (by kernel_rfl) (fun _ _ _ h => h) (Or.inr ⟨by rfl, rfl⟩) (by assumption) ?_; simp only [Act.put, List.setIfInBounds_toArray, List.set_cons_zero, List.set_cons_succ, List.getElem_toArray, List.getElem_cons_succ, List.getElem_cons_zero])
                first
                | (refine wpAnyH_take (i := 13) (v := ?_) (Array.getElem?_eq_getElem (by decide)) (by kernel_rfl) (by kernel_rfl) (by kernel_rfl) (fun _ _ _ h => h) (Or.inl ⟨by rfl, ?_⟩) (by assumption) ?_; rotate_left; (intro w hSw; (try dsimp only at hSw); go_simp; done); simp only [Act.put, List.setIfInBounds_toArray, List.set_cons_zero, List.set_cons_succ, List.getElem_toArray, List.getElem_cons_succ, List.getElem_cons_zero])
                | (refine wpAnyH_take (i := 13) (v := ?_) (Array.getElem?_eq_getElem (by decide)) (by kernel_rfl) (by kernel_rfl) (by kernel_rfl) (fun _ _ _ h => h) (Or.inl ⟨by rfl, ?_⟩) (by assumption) ?_; rotate_left; (intro w hSw; (try dsimp only at hSw); go_simp; with_reducible rfl); simp only [Act.put, List.setIfInBounds_toArray, List.set_cons_zero, List.set_cons_succ, List.getElem_toArray, List.getElem_cons_succ, List.getElem_cons_zero])
                | (refine wpAnyH_take (i := 13) (v := undef) (Array.getElem?_eq_getElem (by decide)) (by kernel_rfl) (by kernel_rfl) (by kernel_rfl) (fun _ _ _ h => h) (Or.inr ⟨by rfl, rfl⟩) (by assumption) ?_; simp only [Act.put, List.setIfInBounds_toArray, List.set_cons_zero, List.set_cons_succ, List.getElem_toArray, List.getElem_cons_succ, List.getElem_cons_zero])
                first
                | (refine wpAnyH_take (i := 14) (v := ?_) (Array.getElem?_eq_getElem (by decide)) (by kernel_rfl) (by kernel_rfl) (by kernel_rfl) (fun _ _ _ h => h) (Or.inl ⟨by rfl, ?_⟩) (by assumption) ?_; rotate_left; (intro w hSw; (try dsimp only at hSw); go_simp; done); simp only [Act.put, List.setIfInBounds_toArray, List.set_cons_zero, List.set_cons_succ, List.getElem_toArray, List.getElem_cons_succ, List.getElem_cons_zero])
                | (refine wpAnyH_take (i := 14) (v := ?_) (Array.getElem?_eq_getElem (by decide)) (by kernel_rfl) (by kernel_rfl) (by kernel_rfl) (fun _ _ _ h => h) (Or.inl ⟨by rfl, ?_⟩) (by assumption) ?_; rotate_left; (intro w hSw; (try dsimp only at hSw); go_simp; with_reducible rfl); simp only [Act.put, List.setIfInBounds_toArray, List.set_cons_zero, List.set_cons_succ, List.getElem_toArray, List.getElem_cons_succ, List.getElem_cons_zero])
                | (refine wpAnyH_take (i := 14) (v := undef) (Array.getElem?_eq_getElem (by decide)) (by kernel_rfl) (by kernel_rfl) (by kernel_rfl) (fun _ _ _ h => h) (Or.inr ⟨by rfl, rfl⟩) (by assumption) ?_; simp only [Act.put, List.setIfInBounds_toArray, List.set_cons_zero, List.set_cons_succ, List.getElem_toArray, List.getElem_cons_succ, List.getElem_cons_zero])
                refine wpAnyH_done (by kernel_rfl) ?_ _
                have hkv : Kept X v11 := And.left (by assumption)
                go_wp2
                go_ret
                exact ⟨rfl, hk0X.trans hkv⟩))
          · have hqk : ¬ q' = kn + 1 := by omega
            go_region_law ((refine step_append_grows (by rfl) _ _ _ (by rfl) 31 iF _ 9 80 Try.underlying23 hiF hzF0 hzF1 hzF2 rfl (by omega) (some ⟨g4, 0, none⟩) kn kn (recs (M.take kn)) (by rfl) (fun h => by cases h) P1.out (fun b hb => by injection hb with hb; subst hb; exact P2.out _ (by (repeat (first | assumption | exact Kept.refl _ | apply Kept.drew | apply Kept.alloc | (refine Kept.setCell ?_ (by dsimp only; omega) _))))) ⟨b', off' + (kn + 1) * 9, none⟩ (M.length - (kn + 1)) (q' - (kn + 1)) (recs (M.drop (kn + 1))) (by rfl) P3.out (P4.out _ (by (repeat (first | assumption | exact Kept.refl _ | apply Kept.drew | apply Kept.alloc | (refine Kept.setCell ?_ (by dsimp only; omega) _))))) (recs_one _) (by omega) (by unfold maxLen; omega) (by omega) ?_; intro v' wE hownE hgrowE; have hkE := kept_of_grown hgrowE; have hk9E : Kept W9 wE := Kept.trans (by (repeat (first | assumption | exact Kept.refl _ | apply Kept.drew | apply Kept.alloc | (refine Kept.setCell ?_ (by dsimp only; omega) _)))) hkE; obtain ⟨oE, cE, rfl⟩ := owns_form' hownE; have y0E := (hk9E.cell _ _ hz9).trans y0; have y1E := (hk9E.cell _ _ hz9).trans y1; have y2E := (hk9E.cell _ _ hz9).trans y2; have f2E := (hk9E.frozen _ _ hz9).trans f2; have hownX := fun u => Lib.hid (ownsRow_setCell_below hownE (a := ⟨w8.heap.size, 2, none⟩) (by simp; omega) u); clear hgrowE hownE))
            all_goals (
              go_wp2_with fail
              obtain ⟨X, hX⟩ : ∃ x, x = wE.setCell ⟨w8.heap.size, 2, none⟩ (.slice oE (kn + (M.length - (kn + 1))) cE) := ⟨_, rfl⟩
              have hOX := (hownX (.slice oE (kn + (M.length - (kn + 1))) cE)).out
              rw [← hX] at hOX
              rw [← hX]
              have hkX : Kept w8 X := by rw [hX]; exact Kept.setCell (hk9.trans hk9E) (Nat.le_refl _) _
              have d0 : X.cell? ⟨w8.heap.size, 0, none⟩ = some (.int .i64 f) := by rw [hX]; exact (World.cell?_setCell_far2 (by decide)).trans y0E
              have d1 : X.cell? ⟨w8.heap.size, 1, none⟩ = some (.slice o3 L.length c3) := by rw [hX]; exact (World.cell?_setCell_far2 (by decide)).trans y1E
              have d2 : X.cell? ⟨w8.heap.size, 2, none⟩ = some (.slice oE (kn + (M.length - (kn + 1))) cE) := by rw [hX]; exact World.cell?_setCell_same' _ _ _ (by rw [y2E]; rfl)
              have hzX8 : w8.heap.size < X.heap.size := by rw [hX, World.size_setCell]; exact Nat.lt_of_lt_of_le hz9 hk9E.size
              clear hX hownX
              have hEl : (M.take kn ++ M.drop (kn + 1)).length = kn + (M.length - (kn + 1)) := by rw [List.length_append, List.length_take, List.length_drop, Nat.min_eq_left (by omega)]
              have hRF : IsRecs X oE (M.take kn ++ M.drop (kn + 1)) := by
                rw [← recs_app, ← hEl] at hOX
                exact recs_of_owns' hOX
              clear hOX y0E y1E y2E f2E hk9E
              have hk3X : Kept w3 X := hk38.trans hkX
              have hk0X : Kept w X := hk08.trans hkX
              have hzX3 : w.heap.size + 1 < X.heap.size := Nat.lt_of_lt_of_le hz3 hk3X.size
              have hzX0 : w.heap.size < X.heap.size := by omega
              have hzX : w8.heap.size < X.heap.size := hzX8
              have a0 := (hk3X.cell _ _ (by omega)).trans (HB.out 0 _ rfl)
              have a1 := (hk3X.cell _ _ (by omega)).trans (HB.out 1 _ rfl)
              have a2 := (hk3X.cell _ _ (by omega)).trans (HB.out 2 _ rfl)
              obtain ⟨bb, ob, eb, i0, _⟩ := (HM.out.kept hk0X).cells kn hkl
              injection eb with eb
              injection eb with eb1 eb2 _
              subst eb1 eb2
              have hzi := lt_cellL i0
              obtain ⟨gg1, gg2⟩ := falls f L M kn hkl HC.out
              have okE : ∀ r ∈ M.take kn ++ M.drop (kn + 1), r.ok := fun r hr => by
                rw [List.mem_append] at hr
                rcases hr with hr | hr
                · exact HkM.out r (List.mem_of_mem_take hr)
                · exact HkM.out r (List.mem_of_mem_drop hr)
              have KE := Lib.hid (fun w' (k : Kept X w') => CCheck_any f o3 oE c3 cE L (M.take kn ++ M.drop (kn + 1)) w' (RL3.out.kept (hkX.trans k)) (hRF.kept k) HkL.out okE)
              have KG := Lib.hid (fun w' (k : Kept X w') => Find_any f o3 oE c3 cE L (M.take kn ++ M.drop (kn + 1)) (M[kn]!).s w' (hRF.kept k) (by rw [hEl]; omega))
              rw [gg1, chV_t, hEl] at KE
              rw [gg2, hEl] at KG
              generalize (M[kn]!).s = id at *
              clear okE gg1 gg2 hRF RL3 RE HM HL HkM HkL HC KP KI HB HE HF HO P1 P2 P3 P4 hkX hk3X
              clear hk8 hk9 hz9 y0 y1 y2 f0 f1 f2 v0 v1 v2
              go_wp2_with fail
              refine wp_region_held_drew (S := fun w' => Kept (X) w' ∧ (∀ b o, b < (X).heap.size → w'.cell? ⟨b, o, none⟩ = (X).cell? ⟨b, o, none⟩)) (by kernel_rfl) (held_of (Kept.drew (Kept.refl _))) (fun hHeld => ?_)
              first
              | (refine wpAnyH_take (i := 0) (v := ?_) (Array.getElem?_eq_getElem (by decide)) (by kernel_rfl) (by kernel_rfl) (by kernel_rfl) (fun _ _ _ h => h) (Or.inl ⟨by rfl, ?_⟩) (by assumption) ?_; rotate_left; (intro w hSw; (try dsimp only at hSw); go_simp; done); simp only [Act.put, List.setIfInBounds_toArray, List.set_cons_zero, List.set_cons_succ, List.getElem_toArray, List.getElem_cons_succ, List.getElem_cons_zero])
              | (refine wpAnyH_take (i := 0) (v := ?_) (Array.getElem?_eq_getElem (by decide)) (by kernel_rfl) (by kernel_rfl) (by kernel_rfl) (fun _ _ _ h => h) (Or.inl ⟨by rfl, ?_⟩) (by assumption) ?_; rotate_left; (intro w hSw; (try dsimp only at hSw); go_simp; with_reducible rfl); simp only [Act.put, List.setIfInBounds_toArray, List.set_cons_zero, List.set_cons_succ, List.getElem_toArray, List.getElem_cons_succ, List.getElem_cons_zero])
              | (refine wpAnyH_take (i := 0) (v := undef) (Array.getElem?_eq_getElem (by decide)) (by kernel_rfl) (by kernel_rfl) (by kernel_rfl) (fun _ _ _ h => h) (Or.inr ⟨by rfl, rfl⟩) (by assumption) ?_; simp only [Act.put, List.setIfInBounds_toArray, List.set_cons_zero, List.set_cons_succ, List.getElem_toArray, List.getElem_cons_succ, List.getElem_cons_zero])
              refine wpAnyH_ready (rs := [1]) (by kernel_rfl) (by simp) ?_
              refine AllReadyH.cons rfl (fun K hK => ?_) AllReadyH.nil
              go_simp
              go_at_call 14
              (with_reducible refine (KE.out _ (And.left (by assumption))).mono ?_)
              rintro e v1 ⟨rfl, hq1⟩
              refine hK.out _ _ (held_of (Kept.trans (And.left (by assumption)) (by assumption))) (fun hHeld1 => ?_)
              clear hK K
              try simp only [Act.put, List.setIfInBounds_toArray, List.set_cons_zero, List.set_cons_succ, List.getElem_toArray, List.getElem_cons_succ, List.getElem_cons_zero]
              first
              | (refine wpAnyH_take (i := 2) (v := ?_) (Array.getElem?_eq_getElem (by decide)) (by kernel_rfl) (by kernel_rfl) (by kernel_rfl) (fun _ _ _ h => h) (Or.inl ⟨by rfl, ?_⟩) (by assumption) ?_; rotate_left; (intro w hSw; (try dsimp only at hSw); go_simp; done); simp only [Act.put, List.setIfInBounds_toArray, List.set_cons_zero, List.set_cons_succ, List.getElem_toArray, List.getElem_cons_succ, List.getElem_cons_zero])
              | (refine wpAnyH_take (i := 2) (v := ?_) (Array.getElem?_eq_getElem (by decide)) (by kernel_rfl) (by kernel_rfl) (by kernel_rfl) (fun _ _ _ h => h) (Or.inl ⟨by rfl, ?_⟩) (by assumption) ?_; rotate_left; (intro w hSw; (try dsimp only at hSw); go_simp; with_reducible rfl); simp only [Act.put, List.setIfInBounds_toArray, List.set_cons_zero, List.set_cons_succ, List.getElem_toArray, List.getElem_cons_succ, List.getElem_cons_zero])
              | (refine wpAnyH_take (i := 2) (v := undef) (Array.getElem?_eq_getElem (by decide)) (by kernel_rfl) (by kernel_rfl) (by kernel_rfl) (fun _ _ _ h => h) (Or.inr ⟨by rfl, rfl⟩) (by assumption) ?_; simp only [Act.put, List.setIfInBounds_toArray, List.set_cons_zero, List.set_cons_succ, List.getElem_toArray, List.getElem_cons_succ, List.getElem_cons_zero])
              first
              | (refine wpAnyH_take (i := 3) (v := ?_) (Array.getElem?_eq_getElem (by decide)) (by kernel_rfl) (by kernel_rfl) (by kernel_rfl) (fun _ _ _ h => h) (Or.inl ⟨by rfl, ?_⟩) (by assumption) ?_; rotate_left; (intro w hSw; (try dsimp only at hSw); go_simp; done); simp only [Act.put, List.setIfInBounds_toArray, List.set_cons_zero, List.set_cons_succ, List.getElem_toArray, List.getElem_cons_succ, List.getElem_cons_zero])
              | (refine wpAnyH_take (i := 3) (v := ?_) (Array.getElem?_eq_getElem (by decide)) (by kernel_rfl) (by kernel_rfl) (by kernel_rfl) (fun _ _ _ h => h) (Or.inl ⟨by rfl, ?_⟩) (by assumption) ?_; rotate_left; (intro w hSw; (try dsimp only at hSw); go_simp; with_reducible rfl); simp only [Act.put, List.setIfInBounds_toArray, List.set_cons_zero, List.set_cons_succ, List.getElem_toArray, List.getElem_cons_succ, List.getElem_cons_zero])
              | (refine wpAnyH_take (i := 3) (v := undef) (Array.getElem?_eq_getElem (by decide)) (by kernel_rfl) (by kernel_rfl) (by kernel_rfl) (fun _ _ _ h => h) (Or.inr ⟨by rfl, rfl⟩) (by assumption) ?_; simp only [Act.put, List.setIfInBounds_toArray, List.set_cons_zero, List.set_cons_succ, List.getElem_toArray, List.getElem_cons_succ, List.getElem_cons_zero])
              first
              | (refine wpAnyH_take (i := 4) (v := ?_) (Array.getElem?_eq_getElem (by decide)) (by kernel_rfl) (by kernel_rfl) (by kernel_rfl) (fun _ _ _ h => h) (Or.inl ⟨by rfl, ?_⟩) (by assumption) ?_; rotate_left; (intro w hSw; (try dsimp only at hSw); go_simp; done); simp only [Act.put, List.setIfInBounds_toArray, List.set_cons_zero, List.set_cons_succ, List.getElem_toArray, List.getElem_cons_succ, List.getElem_cons_zero])
              | (refine wpAnyH_take (i := 4) (v := ?_) (Array.getElem?_eq_getElem (by decide)) (by kernel_rfl) (by kernel_rfl) (by kernel_rfl) (fun _ _ _ h => h) (Or.inl ⟨by rfl, ?_⟩) (by assumption) ?_; rotate_left; (intro w hSw; (try dsimp only at hSw); go_simp; with_reducible rfl); simp only [Act.put, List.setIfInBounds_toArray, List.set_cons_zero, List.set_cons_succ, List.getElem_toArray, List.getElem_cons_succ, List.getElem_cons_zero])
              | (refine wpAnyH_take (i := 4) (v := undef) (Array.getElem?_eq_getElem (by decide)) (by kernel_rfl) (by kernel_rfl) (by kernel_rfl) (fun _ _ _ h => h) (Or.inr ⟨by rfl, rfl⟩) (by assumption) ?_; simp only [Act.put, List.setIfInBounds_toArray, List.set_cons_zero, List.set_cons_succ, List.getElem_toArray, List.getElem_cons_succ, List.getElem_cons_zero])
              first
              | (refine wpAnyH_take (i := 5) (v := ?_) (Array.getElem?_eq_getElem (by decide)) (by kernel_rfl) (by kernel_rfl) (by kernel_rfl) (fun _ _ _ h => h) (Or.inl ⟨by rfl, ?_⟩) (by assumption) ?_; rotate_left; (intro w hSw; (try dsimp only at hSw); go_simp; done); simp only [Act.put, List.setIfInBounds_toArray, List.set_cons_zero, List.set_cons_succ, List.getElem_toArray, List.getElem_cons_succ, List.getElem_cons_zero])
              | (refine wpAnyH_take (i := 5) (v := ?_) (Array.getElem?_eq_getElem (by decide)) (by kernel_rfl) (by kernel_rfl) (by kernel_rfl) (fun _ _ _ h => h) (Or.inl ⟨by rfl, ?_⟩) (by assumption) ?_; rotate_left; (intro w hSw; (try dsimp only at hSw); go_simp; with_reducible rfl); simp only [Act.put, List.setIfInBounds_toArray, List.set_cons_zero, List.set_cons_succ, List.getElem_toArray, List.getElem_cons_succ, List.getElem_cons_zero])
              | (refine wpAnyH_take (i := 5) (v := undef) (Array.getElem?_eq_getElem (by decide)) (by kernel_rfl) (by kernel_rfl) (by kernel_rfl) (fun _ _ _ h => h) (Or.inr ⟨by rfl, rfl⟩) (by assumption) ?_; simp only [Act.put, List.setIfInBounds_toArray, List.set_cons_zero, List.set_cons_succ, List.getElem_toArray, List.getElem_cons_succ, List.getElem_cons_zero])
              first
              | (refine wpAnyH_take (i := 6) (v := ?_) (Array.getElem?_eq_getElem (by decide)) (by kernel_rfl) (by kernel_rfl) (by kernel_rfl) (fun _ _ _ h => h) (Or.inl ⟨by rfl, ?_⟩) (by assumption) ?_; rotate_left; (intro w hSw; (try dsimp only at hSw); go_simp; done); simp only [Act.put, List.setIfInBounds_toArray, List.set_cons_zero, List.set_cons_succ, List.getElem_toArray, List.getElem_cons_succ, List.getElem_cons_zero])
              | (refine wpAnyH_take (i := 6) (v := ?_) (Array.getElem?_eq_getElem (by decide)) (by kernel_rfl) (by kernel_rfl) (by kernel_rfl) (fun _ _ _ h => h) (Or.inl ⟨by rfl, ?_⟩) (by assumption) ?_; rotate_left; (intro w hSw; (try dsimp only at hSw); go_simp; with_reducible rfl); simp only [Act.put, List.setIfInBounds_toArray, List.set_cons_zero, List.set_cons_succ, List.getElem_toArray, List.getElem_cons_succ, List.getElem_cons_zero])
              | (refine wpAnyH_take (i := 6) (v := undef) (Array.getElem?_eq_getElem (by decide)) (by kernel_rfl) (by kernel_rfl) (by kernel_rfl) (fun _ _ _ h => h) (Or.inr ⟨by rfl, rfl⟩) (by assumption) ?_; simp only [Act.put, List.setIfInBounds_toArray, List.set_cons_zero, List.set_cons_succ, List.getElem_toArray, List.getElem_cons_succ, List.getElem_cons_zero])
              first
              | (refine wpAnyH_take (i := 7) (v := ?_) (Array.getElem?_eq_getElem (by decide)) (by kernel_rfl) (by kernel_rfl) (by kernel_rfl) (fun _ _ _ h => h) (Or.inl ⟨by rfl, ?_⟩) (by assumption) ?_; rotate_left; (intro w hSw; (try dsimp only at hSw); go_simp; done); simp only [Act.put, List.setIfInBounds_toArray, List.set_cons_zero, List.set_cons_succ, List.getElem_toArray, List.getElem_cons_succ, List.getElem_cons_zero])
              | (refine wpAnyH_take (i := 7) (v := ?_) (Array.getElem?_eq_getElem (by decide)) (by kernel_rfl) (by kernel_rfl) (by kernel_rfl) (fun _ _ _ h => h) (Or.inl ⟨by rfl, ?_⟩) (by assumption) ?_; rotate_left; (intro w hSw; (try dsimp only at hSw); go_simp; with_reducible rfl); simp only [Act.put, List.setIfInBounds_toArray, List.set_cons_zero, List.set_cons_succ, List.getElem_toArray, List.getElem_cons_succ, List.getElem_cons_zero])
              | (refine wpAnyH_take (i := 7) (v := undef) (Array.getElem?_eq_getElem (by decide)) (by kernel_rfl) (by kernel_rfl) (by kernel_rfl) (fun _ _ _ h => h) (Or.inr ⟨by rfl, rfl⟩) (by assumption) ?_; simp only [Act.put, List.setIfInBounds_toArray, List.set_cons_zero, List.set_cons_succ, List.getElem_toArray, List.getElem_cons_succ, List.getElem_cons_zero])
              first
              | (refine wpAnyH_take (i := 8) (v := ?_) (Array.getElem?_eq_getElem (by decide)) (by kernel_rfl) (by kernel_rfl) (by kernel_rfl) (fun _ _ _ h => h) (Or.inl ⟨by rfl, ?_⟩) (by assumption) ?_; rotate_left; (intro w hSw; (try dsimp only at hSw); go_simp; done); simp only [Act.put, List.setIfInBounds_toArray, List.set_cons_zero, List.set_cons_succ, List.getElem_toArray, List.getElem_cons_succ, List.getElem_cons_zero])
              | (refine wpAnyH_take (i := 8) (v := ?_) (Array.getElem?_eq_getElem (by decide)) (by kernel_rfl) (by kernel_rfl) (by kernel_rfl) (fun _ _ _ h => h) (Or.inl ⟨by rfl, ?_⟩) (by assumption) ?_; rotate_left; (intro w hSw; (try dsimp only at hSw); go_simp; with_reducible rfl); simp only [Act.put, List.setIfInBounds_toArray, List.set_cons_zero, List.set_cons_succ, List.getElem_toArray, List.getElem_cons_succ, List.getElem_cons_zero])
              | (refine wpAnyH_take (i := 8) (v := undef) (Array.getElem?_eq_getElem (by decide)) (by kernel_rfl) (by kernel_rfl) (by kernel_rfl) (fun _ _ _ h => h) (Or.inr ⟨by rfl, rfl⟩) (by assumption) ?_; simp only [Act.put, List.setIfInBounds_toArray, List.set_cons_zero, List.set_cons_succ, List.getElem_toArray, List.getElem_cons_succ, List.getElem_cons_zero])
              first
              | (refine wpAnyH_take (i := 9) (v := ?_) (Array.getElem?_eq_getElem (by decide)) (by kernel_rfl) (by kernel_rfl) (by kernel_rfl) (fun _ _ _ h => h) (Or.inl ⟨by rfl, ?_⟩) (by assumption) ?_; rotate_left; (intro w hSw; (try dsimp only at hSw); go_simp; done); simp only [Act.put, List.setIfInBounds_toArray, List.set_cons_zero, List.set_cons_succ, List.getElem_toArray, List.getElem_cons_succ, List.getElem_cons_zero])
              | (refine wpAnyH_take (i := 9) (v := ?_) (Array.getElem?_eq_getElem (by decide)) (by kernel_rfl) (by kernel_rfl) (by kernel_rfl) (fun _ _ _ h => h) (Or.inl ⟨by rfl, ?_⟩) (by assumption) ?_; rotate_left; (intro w hSw; (try dsimp only at hSw); go_simp; with_reducible rfl); simp only [Act.put, List.setIfInBounds_toArray, List.set_cons_zero, List.set_cons_succ, List.getElem_toArray, List.getElem_cons_succ, List.getElem_cons_zero])
              | (refine wpAnyH_take (i := 9) (v := undef) (Array.getElem?_eq_getElem (by decide)) (by kernel_rfl) (by kernel_rfl) (by kernel_rfl) (fun _ _ _ h => h) (Or.inr ⟨by rfl, rfl⟩) (by assumption) ?_; simp only [Act.put, List.setIfInBounds_toArray, List.set_cons_zero, List.set_cons_succ, List.getElem_toArray, List.getElem_cons_succ, List.getElem_cons_zero])
              first
              | (refine wpAnyH_take (i := 10) (v := ?_) (Array.getElem?_eq_getElem (by decide)) (by kernel_rfl) (by kernel_rfl) (by kernel_rfl) (fun _ _ _ h => h) (Or.inl ⟨by rfl, ?_⟩) (by assumption) ?_; rotate_left; (intro w hSw; (try dsimp only at hSw); go_simp; done); simp only [Act.put, List.setIfInBounds_toArray, List.set_cons_zero, List.set_cons_succ, List.getElem_toArray, List.getElem_cons_succ, List.getElem_cons_zero])
              | (refine wpAnyH_take (i := 10) (v := ?_) (Array.getElem?_eq_getElem (by decide)) (by kernel_rfl) (by kernel_rfl) (by kernel_rfl) (fun _ _ _ h => h) (Or.inl ⟨by rfl, ?_⟩) (by assumption) ?_; rotate_left; (intro w hSw; (try dsimp only at hSw); go_simp; with_reducible rfl); simp only [Act.put, List.setIfInBounds_toArray, List.set_cons_zero, List.set_cons_succ, List.getElem_toArray, List.getElem_cons_succ, List.getElem_cons_zero])
              | (refine wpAnyH_take (i := 10) (v := undef) (Array.getElem?_eq_getElem (by decide)) (by kernel_rfl) (by kernel_rfl) (by kernel_rfl) (fun _ _ _ h => h) (Or.inr ⟨by rfl, rfl⟩) (by assumption) ?_; simp only [Act.put, List.setIfInBounds_toArray, List.set_cons_zero, List.set_cons_succ, List.getElem_toArray, List.getElem_cons_succ, List.getElem_cons_zero])
              refine wpAnyH_ready (rs := [11]) (by kernel_rfl) (by simp) ?_
              refine AllReadyH.cons rfl (fun K hK => ?_) AllReadyH.nil
              go_simp
              go_at_call 16
              (with_reducible refine (KG.out _ (And.left (by assumption))).mono ?_)
              rintro e v11 ⟨rfl, hq11⟩
              refine hK.out _ _ (held_of (Kept.trans (And.left (by assumption)) (by assumption))) (fun hHeld11 => ?_)
              clear hK K
              try simp only [Act.put, List.setIfInBounds_toArray, List.set_cons_zero, List.set_cons_succ, List.getElem_toArray, List.getElem_cons_succ, List.getElem_cons_zero]
              first
              | (refine wpAnyH_take (i := 12) (v := ?_) (Array.getElem?_eq_getElem (by decide)) (by kernel_rfl) (by kernel_rfl) (by kernel_rfl) (fun _ _ _ h => h) (Or.inl ⟨by rfl, ?_⟩) (by assumption) ?_; rotate_left; (intro w hSw; (try dsimp only at hSw); go_simp; done); simp only [Act.put, List.setIfInBounds_toArray, List.set_cons_zero, List.set_cons_succ, List.getElem_toArray, List.getElem_cons_succ, List.getElem_cons_zero])
              | (refine wpAnyH_take (i := 12) (v := ?_) (Array.getElem?_eq_getElem (by decide)) (by kernel_rfl) (by kernel_rfl) (by kernel_rfl) (fun _ _ _ h => h) (Or.inl ⟨by rfl, ?_⟩) (by assumption) ?_; rotate_left; (intro w hSw; (try dsimp only at hSw); go_simp; with_reducible rfl); simp only [Act.put, List.setIfInBounds_toArray, List.set_cons_zero, List.set_cons_succ, List.getElem_toArray, List.getElem_cons_succ, List.getElem_cons_zero])
              | (refine wpAnyH_take (i := 12) (v := undef) (Array.getElem?_eq_getElem (by decide)) (by kernel_rfl) (by kernel_rfl) (by kernel_rfl) (fun _ _ _ h => h) (Or.inr ⟨by rfl, rfl⟩) (by assumption) ?_; simp only [Act.put, List.setIfInBounds_toArray, List.set_cons_zero, List.set_cons_succ, List.getElem_toArray, List.getElem_cons_succ, List.getElem_cons_zero])
              first
              | (refine wpAnyH_take (i := 13) (v := ?_) (Array.getElem?_eq_getElem (by decide)) (by kernel_rfl) (by kernel_rfl) (by kernel_rfl) (fun _ _ _ h => h) (Or.inl ⟨by rfl, ?_⟩) (by assumption) ?_; rotate_left; (intro w hSw; (try dsimp only at hSw); go_simp; done); simp only [Act.put, List.setIfInBounds_toArray, List.set_cons_zero, List.set_cons_succ, List.getElem_toArray, List.getElem_cons_succ, List.getElem_cons_zero])
              | (refine wpAnyH_take (i := 13) (v := ?_) (Array.getElem?_eq_getElem (by decide)) (by kernel_rfl) (by kernel_rfl) (by kernel_rfl) (fun _ _ _ h => h) (Or.inl ⟨by rfl, ?_⟩) (by assumption) ?_; rotate_left; (intro w hSw; (try dsimp only at hSw); go_simp; with_reducible rfl); simp only [Act.put, List.setIfInBounds_toArray, List.set_cons_zero, List.set_cons_succ, List.getElem_toArray, List.getElem_cons_succ, List.getElem_cons_zero])
              | (refine wpAnyH_take (i := 13) (v := undef) (Array.getElem?_eq_getElem (by decide)) (by kernel_rfl) (by kernel_rfl) (by kernel_rfl) (fun _ _ _ h => h) (Or.inr ⟨by rfl, rfl⟩) (by assumption) ?_; simp only [Act.put, List.setIfInBounds_toArray, List.set_cons_zero, List.set_cons_succ, List.getElem_toArray, List.getElem_cons_succ, List.getElem_cons_zero])
              first
              | (refine wpAnyH_take (i := 14) (v := ?_) (Array.getElem?_eq_getElem (by decide)) (by kernel_rfl) (by kernel_rfl) (by kernel_rfl) (fun _ _ _ h => h) (Or.inl ⟨by rfl, ?_⟩) (by assumption) ?_; rotate_left; (intro w hSw; (try dsimp only at hSw); go_simp; done); simp only [Act.put, List.setIfInBounds_toArray, List.set_cons_zero, List.set_cons_succ, List.getElem_toArray, List.getElem_cons_succ, List.getElem_cons_zero])
              | (refine wpAnyH_take (i := 14) (v := ?_) (Array.getElem?_eq_getElem (by decide)) (by kernel_rfl) (by kernel_rfl) (by kernel_rfl) (fun _ _ _ h => h) (Or.inl ⟨by rfl, ?_⟩) (by assumption) ?_; rotate_left; (intro w hSw; (try dsimp only at hSw); go_simp; with_reducible rfl); simp only [Act.put, List.setIfInBounds_toArray, List.set_cons_zero, List.set_cons_succ, List.getElem_toArray, List.getElem_cons_succ, List.getElem_cons_zero])
              | (refine wpAnyH_take (i := 14) (v := undef) (Array.getElem?_eq_getElem (by decide)) (by kernel_rfl) (by kernel_rfl) (by kernel_rfl) (fun _ _ _ h => h) (Or.inr ⟨by rfl, rfl⟩) (by assumption) ?_; simp only [Act.put, List.setIfInBounds_toArray, List.set_cons_zero, List.set_cons_succ, List.getElem_toArray, List.getElem_cons_succ, List.getElem_cons_zero])
              refine wpAnyH_done (by kernel_rfl) ?_ _
              have hkv : Kept X v11 := And.left (by assumption)
              go_wp2
              go_ret
              exact ⟨rfl, hk0X.trans hkv⟩)
theorem cat_cap {H : Type} {enc : TypeId × Value → H} {w : World} {base : Nat} {spare : Nat → Bool} {held : Bool} {f : Int} {o o' : Option Addr} {n n' q q' : Nat} {d : DataW H} {p : List MemPlace} (h : DataW.Trod enc Try.prog w base spare held 25 (.agg #[.int .i64 f, .slice o n q, .slice o' n' q']) d p) : n' ≤ q' := by
  obtain ⟨fuel, h⟩ := h
  obtain ⟨xs, n1, rfl, _, _, hx, hf⟩ := DataW.trod_struct Try.underlying25 (show DataW.trod enc Try.prog w base spare held fuel 25 [.int .i64 f, .slice o n q, .slice o' n' q'] = some _ from h)
  have hx : xs.length = 3 := hx
  obtain ⟨y0, y1, y2, rfl⟩ : ∃ y0 y1 y2, xs = [y0, y1, y2] := by
    match xs, hx with
    | [y0, y1, y2], _ => exact ⟨_, _, _, rfl⟩
  have g2 : DataW.trod enc Try.prog w base spare held n1 23 ((([.int .i64 f, .slice o n q, .slice o' n' q'] : List Value).drop 2).take (Try.prog.cellsOf 23)) = some y2 := hf 2 _ rfl
  rw [cellsM] at g2
  rcases Go.Deep.open_slice Try.underlying23 (show DataW.trod enc Try.prog w base spare held n1 23 [.slice o' n' q'] = some y2 from g2) with ⟨e, _⟩ | ⟨a, len, cap, m, n2, D, Pl, e, _, hl, _⟩
  · simp at e; omega
  · simp at e; omega
theorem CatalogueGrows_walk (f : Int) (o o' : Option Addr) (q q' : Nat) (L M : List Rec) (r : Rec) (n : Int) (w : World) (hL : IsRecs w o L) (hM : IsRecs w o' M) (okL : ∀ r ∈ L, r.ok) (okM : ∀ r ∈ M, r.ok) (_lL : L.length ≤ maxLen) (_lM : M.length ≤ maxLen) (_hf : -9223372036854775808 ≤ f ∧ f ≤ 9223372036854775807) (hq : M.length ≤ q')
    (hr : r.ok) (bn : 0 ≤ n ∧ n ≤ 255) :
    Calls Try.prog 5 #[.agg #[.int .i64 f, .slice o L.length q, .slice o' M.length q'], r.val, .int .u8 n] w fun e w' => e = .returned (.bool true) ∧ Kept w w' := by
  obtain ⟨s, x1, x2, x3, x4, x5, x6, x7, x8⟩ := r
  show Calls Try.prog 5 #[.agg #[.int .i64 f, .slice o L.length q, .slice o' M.length q'], .agg #[.string s, .int .i64 x1, .int .i64 x2, .int .i64 x3, .int .i64 x4, .int .i64 x5, .int .i64 x6, .int .i64 x7, .int .i64 x8], .int .u8 n] w fun e w' => e = .returned (.bool true) ∧ Kept w w'
  have KR := Lib.hid (fun w' (k : Kept w w') => Right_any f o o' q q' L M w' (hL.kept k) (hM.kept k) okL okM)
  cases hR : (decide (L.length ≤ 8 ∧ M.length ≤ 30) && catB f L M) with
  | true =>
    rw [Bool.and_eq_true, decide_eq_true_eq] at hR
    cases hfe : feaB s x1 x2 x3 x4 x5 x6 x7 x8 with
    | true => exact Grows_core f o o' q q' L M s x1 x2 x3 x4 x5 x6 x7 x8 n w hL hM okL okM hr bn hR.1.1 hR.1.2 hq hR.2 hfe
    | false =>
      have KU := Lib.hid (fun w => rFeast_any s x1 x2 x3 x4 x5 x6 x7 x8 w hr.2)
      rw [hfe] at KU
      rw [hR.2, decide_eq_true hR.1, Bool.true_and] at KR
      clear hL hM okL okM hr hR hfe
      go_enter Try.func5, Try.ntmps5
      go_wp2_with fail
      (go_at_call 7; refine (Cat_awake _).mono ?_; rintro e w1 ⟨rfl, hk1⟩)
      have hB1_1 := hk1
      obtain ⟨hc1_1, hf1_1⟩ := kept_cells hB1_1
      have hz1_0_1 : w.heap.size < w1.heap.size := by have := hB1_1.size; simp at this; omega
      have hz1_1_1 : w.heap.size + 1 < w1.heap.size := by have := hB1_1.size; simp at this; omega
      go_wp2_with fail
      (go_at_call 19; refine (KR.out _ (by repeat (first | with_reducible exact Kept.refl _ | with_reducible assumption | with_reducible refine Kept.drew ?_ | with_reducible refine Kept.drewN ?_ _ | with_reducible refine Kept.alloc ?_ _ | (with_reducible refine Kept.setCell ?_ (by first | exact Nat.le_refl _ | omega | (simp; done) | (simp; omega)) _) | (with_reducible refine Kept.trans ?_ (by with_reducible assumption))))).mono ?_; rintro e w2 ⟨rfl, hk2⟩)
      have hB1_2 := Kept.trans hB1_1 hk2
      obtain ⟨hc1_2, hf1_2⟩ := kept_cells hB1_2
      have hz1_0_2 : w.heap.size < w2.heap.size := by have := hB1_2.size; simp at this; omega
      have hz1_1_2 : w.heap.size + 1 < w2.heap.size := by have := hB1_2.size; simp at this; omega
      go_wp2_with fail
      (go_at_call 13; refine (KU.out _).mono ?_; rintro e w3 ⟨rfl, hk3⟩)
      have hB1_3 := Kept.trans hB1_2 hk3
      obtain ⟨hc1_3, hf1_3⟩ := kept_cells hB1_3
      have hz1_0_3 : w.heap.size < w3.heap.size := by have := hB1_3.size; simp at this; omega
      have hz1_1_3 : w.heap.size + 1 < w3.heap.size := by have := hB1_3.size; simp at this; omega
      go_wp2_with fail
      (go_at_call 7; refine (Cat_awake _).mono ?_; rintro e w4 ⟨rfl, hk4⟩)
      have hB1_4 := Kept.trans hB1_3 hk4
      obtain ⟨hc1_4, hf1_4⟩ := kept_cells hB1_4
      have hz1_0_4 : w.heap.size < w4.heap.size := by have := hB1_4.size; simp at this; omega
      have hz1_1_4 : w.heap.size + 1 < w4.heap.size := by have := hB1_4.size; simp at this; omega
      go_wp2
      go_ret
      exact ⟨rfl, (by repeat (first | with_reducible exact Kept.refl _ | with_reducible assumption | with_reducible refine Kept.drew ?_ | with_reducible refine Kept.drewN ?_ _ | with_reducible refine Kept.alloc ?_ _ | (with_reducible refine Kept.setCell ?_ (by first | exact Nat.le_refl _ | omega | (simp; done) | (simp; omega)) _) | (with_reducible refine Kept.trans ?_ (by with_reducible assumption))))⟩
  | false =>
    rw [hR] at KR
    clear hL hM okL okM hr hR
    go_enter Try.func5, Try.ntmps5
    go_wp2_with fail
    (go_at_call 7; refine (Cat_awake _).mono ?_; rintro e w1 ⟨rfl, hk1⟩)
    have hB1_1 := hk1
    obtain ⟨hc1_1, hf1_1⟩ := kept_cells hB1_1
    have hz1_0_1 : w.heap.size < w1.heap.size := by have := hB1_1.size; simp at this; omega
    have hz1_1_1 : w.heap.size + 1 < w1.heap.size := by have := hB1_1.size; simp at this; omega
    go_wp2_with fail
    (go_at_call 19; refine (KR.out _ (by repeat (first | with_reducible exact Kept.refl _ | with_reducible assumption | with_reducible refine Kept.drew ?_ | with_reducible refine Kept.drewN ?_ _ | with_reducible refine Kept.alloc ?_ _ | (with_reducible refine Kept.setCell ?_ (by first | exact Nat.le_refl _ | omega | (simp; done) | (simp; omega)) _) | (with_reducible refine Kept.trans ?_ (by with_reducible assumption))))).mono ?_; rintro e w2 ⟨rfl, hk2⟩)
    have hB1_2 := Kept.trans hB1_1 hk2
    obtain ⟨hc1_2, hf1_2⟩ := kept_cells hB1_2
    have hz1_0_2 : w.heap.size < w2.heap.size := by have := hB1_2.size; simp at this; omega
    have hz1_1_2 : w.heap.size + 1 < w2.heap.size := by have := hB1_2.size; simp at this; omega
    go_wp2_with fail
    (go_at_call 7; refine (Cat_awake _).mono ?_; rintro e w3 ⟨rfl, hk3⟩)
    have hB1_3 := Kept.trans hB1_2 hk3
    obtain ⟨hc1_3, hf1_3⟩ := kept_cells hB1_3
    have hz1_0_3 : w.heap.size < w3.heap.size := by have := hB1_3.size; simp at this; omega
    have hz1_1_3 : w.heap.size + 1 < w3.heap.size := by have := hB1_3.size; simp at this; omega
    go_wp2
    go_ret
    exact ⟨rfl, (by repeat (first | with_reducible exact Kept.refl _ | with_reducible assumption | with_reducible refine Kept.drew ?_ | with_reducible refine Kept.drewN ?_ _ | with_reducible refine Kept.alloc ?_ _ | (with_reducible refine Kept.setCell ?_ (by first | exact Nat.le_refl _ | omega | (simp; done) | (simp; omega)) _) | (with_reducible refine Kept.trans ?_ (by with_reducible assumption))))⟩

set_option maxRecDepth 100000 in
theorem CatalogueGrows_lifted (os : Os) (started : os.Started) (H : Type) (enc : TypeId × Value → H) :
    ReturnsInHanded {} Try.checked os 5 .any (Rows.catalogueGrowsSpec.pre6 enc Try.prog Try.f5 Rows.catalogueGrowsRow.domain false) (Rows.catalogueGrowsSpec.post enc Try.prog Try.f5 false true false false) := by
  refine returnsInHanded_of_change (C := Try.checked) own_knob started (by kernel_rfl) Try.func5
    (ChangeSpec.witness6 (enc := enc) (C := Try.checked) false ⟨#[], #[.agg #[.int .i64 0, .slice none 0 0, .slice none 0 0], .agg #[.string ⟨#[]⟩, .int .i64 0, .int .i64 0, .int .i64 0, .int .i64 0, .int .i64 0, .int .i64 0, .int .i64 0, .int .i64 0], .int .u8 0], []⟩ 8 (by kernel_rfl) (by kernel_rfl) (by kernel_rfl) (by kernel_rfl)) ?_
  intro W base args ds gs before hval0 hW hcnd _
  have hval : ∀ (j : Nat) t v, Try.f5.params[j]? = some t → args[j]? = some v → Value.okWide Try.prog W .any base t v := hval0
  clear hval0
  have hW' := hW
  obtain ⟨p, q, hA0, hV, rfl, hfz, hnd⟩ := hW
  have hA : DataW.TrodAll enc Try.prog W 0 (fun _ => true) true Try.f5.params.toList args.toList ds p := hA0
  rw [Try.params5] at hA hval
  have hAk : DataW.TrodAll enc Try.prog W 0 (fun _ => true) true [25, 31, 5] args.toList ds p := hA
  obtain ⟨v0, vs0, d0, ds0, p0, q_0, hargs, rfl, rfl, h0, r_0⟩ := trodAll_cons hA
  obtain ⟨v1, vs1, d1, ds1, p1, q_1, rfl, rfl, rfl, h1, r_1⟩ := trodAll_cons r_0
  obtain ⟨v2, vs2, d2, ds2, p2, q_2, rfl, rfl, rfl, h2, r_2⟩ := trodAll_cons r_1
  obtain ⟨rfl, rfl, rfl⟩ := trodAll_nil r_2
  obtain rfl : args = #[v0, v1, v2] := by cases args; simp_all
  obtain ⟨rfl, rfl⟩ := trodVars_none hV
  obtain ⟨f0, o0, oo0, q0, qq0, L0, M0, rfl, hL0, hM0, kL0, kM0, lL0, lM0, hf0⟩ := open_cat (hval 0 25 v0 rfl rfl) h0
  obtain ⟨r1, rfl, kr1⟩ := open_feast (hval 1 31 v1 rfl rfl) h1
  obtain ⟨a2, rfl, _, _, w2⟩ := open_int Try.underlying5 (hval 2 5 v2 rfl rfl) h2
  clear hA0
  have hlt := fun x hx => hW'.lt x hx
  have hrd : ∀ t ∈ [25, 31, 5], Try.prog.readableRec t = true ∧ t < Try.prog.types.size := by
    have hall : ([25, 31, 5].all fun u => Try.prog.readableRec u && decide (u < Try.prog.types.size)) = true := by kernel_rfl
    intro t ht
    have := List.all_eq_true.1 hall t ht
    simpa using this
  refine (CatalogueGrows_walk f0 o0 oo0 q0 qq0 L0 M0 r1 a2 W hL0 hM0 kL0 kM0 lL0 lM0 hf0 (cat_cap h0) kr1 (wf_bounds8 w2)).mono fun e W' ⟨he, hg⟩ => ?_
  subst he
  exact ⟨_, rfl, post_of_kept (pv := []) hW' (fun _ _ _ => (trodAll_cons_mk (shut_bool Try.underlying4 _) trodAll_mk0))
    (fun sp hsp => all_kept (by kernel_rfl) hrd hAk hg (fun x hx => hlt x (List.mem_append_left _ hx)) sp (fun x hx => hsp x (List.mem_append_left _ hx))) (fun _ _ => rfl) rfl
    hg (ok_one (by kernel_rfl) rfl (okWide_bool_mk Try.underlying4 _))⟩
theorem CatalogueGrows_proved : Rows.CatalogueGrowsSaid :=
  OpenClaim.holds_of_wide 5 Try.f5 rfl rfl rfl rfl rfl rfl rfl ⟨rfl, rfl, rfl, rfl, rfl⟩ rfl rfl rfl rfl rfl (by kernel_rfl) Try.func5 (by kernel_rfl)
    (of_decide_eq_true (by kernel_rfl)) (by unfold Func.isWrapper; first | (rw [if_pos (by decide +kernel)]; kernel_rfl) | (rw [if_neg (by decide +kernel)]; exact ⟨rfl, rfl⟩))
    (fun os started H enc _ => CatalogueGrows_lifted os started H enc)
#print axioms CatalogueGrows_proved
end Go.Proofs.Ythhaicledbcnmaa

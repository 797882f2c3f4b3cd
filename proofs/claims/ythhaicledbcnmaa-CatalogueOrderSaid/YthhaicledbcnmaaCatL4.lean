/- CatalogueOrder. -/
import Derived.Test.YthhaicledbcnmaaCatAw
import Derived.Test.YthhaicledbcnmaaOrd0
import Derived.Test.YthhaicledbcnmaaCatF
import Derived.Test.YthhaicledbcnmaaRows
set_option linter.unusedSimpArgs false
set_option linter.unusedVariables false
set_option linter.unusedSectionVars false
namespace Go.Proofs.Ythhaicledbcnmaa
open Go.ChangeShapes Go.WideShapes Go.ChangeAt Go.RowKit
set_option maxHeartbeats 8000000
set_option maxRecDepth 20000

theorem Order_core (f : Int) (o o' : Option Addr) (q q' : Nat) (L M : List Rec) (w : World) (hL : IsRecs w o L) (hM : IsRecs w o' M) (okL : ∀ r ∈ L, r.ok) (okM : ∀ r ∈ M, r.ok) (h8 : L.length ≤ 8) (h30 : M.length ≤ 30) :
    Calls Try.prog 6 #[.agg #[.int .i64 f, .slice o L.length q, .slice o' M.length q']] w fun e w' => e = .returned (.bool true) ∧ Kept w w' := by
  have KF := Lib.hid (fun w => CFew_any f o o' q q' L M w)
  rw [decide_eq_true ⟨h8, h30⟩] at KF
  have HL := Lib.hid hL
  have HM := Lib.hid hM
  have HkL := Lib.hid okL
  have HkM := Lib.hid okM
  clear hL hM okL okM
  obtain ⟨iS, hiS, hzS0, hzS1, hzS2⟩ := info_parts info_seaz
  obtain ⟨iF, hiF, hzF0, hzF1, hzF2⟩ := info_parts info_feaz
  go_enter Try.func6, Try.ntmps6
  go_wp2_with fail
  (go_at_call 7; refine (Cat_awake _).mono ?_; rintro e w1 ⟨rfl, hk1⟩)
  have hB1_1 := hk1
  obtain ⟨hc1_1, hf1_1⟩ := kept_cells hB1_1
  have hz1_0_1 : w.heap.size < w1.heap.size := by have := hB1_1.size; simp at this; omega
  go_wp2_with fail
  (go_at_call 17; refine (KF.out _).mono ?_; rintro e w2 ⟨rfl, hk2⟩)
  have hB1_2 := Kept.trans hB1_1 hk2
  obtain ⟨hc1_2, hf1_2⟩ := kept_cells hB1_2
  have hz1_0_2 : w.heap.size < w2.heap.size := by have := hB1_2.size; simp at this; omega
  go_wp2
  have hbox : ∀ i u, #[(.int .i64 f : Value), .slice o L.length q, .slice o' M.length q'][i]? = some u → w2.cell? ⟨w.heap.size, i, none⟩ = some u := fun i u hu => by
    rw [hc1_2 w.heap.size i (by simp), cell_here]
    exact hu
  have hq0 := hbox 0 _ rfl
  have hq1 := hbox 1 _ rfl
  have hq2 := hbox 2 _ rfl
  have hkw2 : Kept w w2 := Kept.trans ((Kept.refl w).alloc _) hB1_2
  have hG0 : Grows (w2.alloc (.cells #[.int .i64 f, .slice none 0 0, .slice none 0 0] 25)) (w2.alloc (.cells #[.int .i64 f, .slice none 0 0, .slice none 0 0] 25)) w2.heap.size (.int .i64 f) (.slice none 0 0) (.slice none 0 0) :=
    Grows.start (by simp) (by rw [cell_here]; rfl) (by rw [cell_here]; rfl) (by rw [cell_here]; rfl) (by simp) (by simp) (by simp)
  have hkW : Kept w (w2.alloc (.cells #[.int .i64 f, .slice none 0 0, .slice none 0 0] 25)) := hkw2.alloc _
  have hzW : (w2.alloc (.cells #[.int .i64 f, .slice none 0 0, .slice none 0 0] 25)).heap.size = w2.heap.size + 1 := by simp
  have hzw : w.heap.size < w2.heap.size := hz1_0_2
  have hq0' := (((Kept.refl w2).alloc (.cells #[.int .i64 f, .slice none 0 0, .slice none 0 0] 25)).cell w.heap.size 0 hzw).trans hq0
  have hq1' := (((Kept.refl w2).alloc (.cells #[.int .i64 f, .slice none 0 0, .slice none 0 0] 25)).cell w.heap.size 1 hzw).trans hq1
  have hq2' := (((Kept.refl w2).alloc (.cells #[.int .i64 f, .slice none 0 0, .slice none 0 0] 25)).cell w.heap.size 2 hzw).trans hq2
  generalize (w2.alloc (.cells #[.int .i64 f, .slice none 0 0, .slice none 0 0] 25)) = W at *
  generalize w2.heap.size = bd at *
  clear hbox hq0 hq1 hq2 hk1 hB1_1 hc1_1 hf1_1 hz1_0_1 hk2 hB1_2 hc1_2 hf1_2 hz1_0_2
  have HG0 := Lib.hid hG0
  have hgX : ∀ wr v1 v2, Grows W wr bd (.int .i64 f) v1 v2 → wr.cell? ⟨w.heap.size, 0, none⟩ = some (.int .i64 f) ∧ wr.cell? ⟨w.heap.size, 1, none⟩ = some (.slice o L.length q) ∧ wr.cell? ⟨w.heap.size, 2, none⟩ = some (.slice o' M.length q') ∧ Kept w wr := fun wr v1 v2 g =>
    ⟨(g.grown.cell hq0' (by simp; omega)), (g.grown.cell hq1' (by simp; omega)), (g.grown.cell hq2' (by simp; omega)), g.kept hkW (by omega)⟩
  have HgX := Lib.hid hgX
  clear hG0 hgX hq0' hq1' hq2' 
  go_loopw [4] (fun i wr => ∃ k : Nat, k ≤ L.length ∧ i = .int .i64 ((k : Int) - 1) ∧ ∃ v, Hid (wr.ownsRow W.heap.size 29 9 v (L.drop k).reverse.length (recs (L.drop k).reverse)) ∧ Hid (Grows W wr bd (.int .i64 f) v (.slice none 0 0))) (fun i _ => (intOf i + 1).toNat)
  case atStart => exact ⟨L.length, Nat.le_refl _, rfl, .slice none 0 0, by rw [List.drop_length]; exact World.ownsRow_nil _ _ _ _, HG0.out⟩
  case round =>
    obtain ⟨k, hk, rfl, v, HO, HG⟩ := hrel
    by_cases hk0 : 0 < k
    · obtain ⟨p, rfl⟩ : ∃ p, k = p + 1 := ⟨k - 1, by omega⟩
      rw [show (((p + 1 : Nat) : Int) - 1) = (p : Int) from by omega]
      obtain ⟨a0, a1, a2, kwr⟩ := HgX.out wr _ _ HG.out
      obtain ⟨b, off, rfl, c0, c1, c2, c3, c4, c5, c6, c7, c8⟩ := (HL.out.kept kwr).cells p (by omega)
      obtain ⟨o1, cp1, rfl⟩ := owns_form' HO.out
      have d1 := HG.out.c1
      have HD := Lib.hid (drop_rev L p (by omega))
      generalize L[p]! = r at *
      obtain ⟨s, xa, xb, xk, xm, xd, xo, xw, xc⟩ := r
      dsimp only at c0 c1 c2 c3 c4 c5 c6 c7 c8
      have hp0 : (0 : Int) ≤ (p : Int) := by omega
      have hp1 : (p : Int) < (L.length : Int) := by omega
      have hRl : (L.drop (p + 1)).reverse.length ≤ 8 := by simp; omega
      generalize (L.drop (p + 1)).reverse = R at *
      have hle := HG.out.grown.size
      have hown := HO.out
      have hbr := HG.out.ltr
      clear HO
      go_wp2_with fail
      go_region_law ((refine step_append_lies _ (by rfl) _ _ _ (by rfl) W.heap.size 29 iS _ 9 80 Try.underlying22 hiS hzS0 hzS1 hzS2 rfl (by omega) (.slice o1 R.length cp1) R.length (recs R) (by rfl) ((hown.alloc _).drew) ⟨wr.heap.size, 0, none⟩ 1 1 [.string s, .int .i64 xa, .int .i64 xb, .int .i64 xk, .int .i64 xm, .int .i64 xd, .int .i64 xo, .int .i64 xw, .int .i64 xc] (by rfl) (by rfl) (World.news_of_block (cs := #[.string s, .int .i64 xa, .int .i64 xb, .int .i64 xk, .int .i64 xm, .int .i64 xd, .int .i64 xo, .int .i64 xw, .int .i64 xc]) (t := 29) (fr := (0, 0)) (heap_alloc_new wr _)) (by simp [Value.oneCell']) (by omega) (by unfold maxLen; omega) (by omega) (by simp; omega) (wr.heap.size + 1) (by simp) ?_; intro gg cap v1 hown1 hgrow hat hlt; have hG1 := ((HG.out.alloc _).drew).of_same hgrow (fun k e => (hown.lt k e).1); have e1 := hG1.c1; have e2 := hG1.z1; have hG2 := fun u => Lib.hid (hG1.set1 u); have hO2 := fun u => Lib.hid (ownsRow_setCell_below hown1 (a := ⟨bd, 1, none⟩) HG.out.lt u); clear hG1 hown1 hgrow hat hlt))
      all_goals (clear a0 a1 a2 c0 c1 c2 c3 c4 c5 c6 c7 c8 d1 hp1 hown HG e1 e2)
      all_goals go_wp2
      all_goals go_roundw
      all_goals first
        | exact ⟨p, by omega, by go_num, _, (by rw [HD.out, List.length_append, List.length_singleton, recs_snoc]; exact (hO2 _).out), hG2 _⟩
        | simp [intOf]
    · obtain rfl : k = 0 := by omega
      rw [List.drop_zero] at HO
      rw [show (((0 : Nat) : Int) - 1) = -1 from by omega]
      obtain ⟨a0, a1, a2, kwr⟩ := HgX.out wr _ _ HG.out
      obtain ⟨o1, cp1, rfl⟩ := owns_form' HO.out
      have HB := Lib.hid (catB_rev f L M)
      have HkR : Hid (∀ r ∈ L.reverse, r.ok) := (show ∀ r ∈ L.reverse, r.ok from fun r hr => HkL.out r (List.mem_reverse.1 hr))
      generalize L.reverse = LR at *
      have hG0 : Grows wr wr bd (.int .i64 f) (.slice o1 LR.length cp1) (.slice none 0 0) := Grows.start HG.out.ltr HG.out.c0 HG.out.c1 HG.out.c2 HG.out.z0 HG.out.z1 HG.out.z2
      have hzr : w.heap.size < wr.heap.size := by have := HG.out.ltr; omega
      have HG3 := Lib.hid hG0
      have hgX : ∀ ws v1 v2, Grows wr ws bd (.int .i64 f) v1 v2 → ws.cell? ⟨w.heap.size, 0, none⟩ = some (.int .i64 f) ∧ ws.cell? ⟨w.heap.size, 1, none⟩ = some (.slice o L.length q) ∧ ws.cell? ⟨w.heap.size, 2, none⟩ = some (.slice o' M.length q') ∧ Kept w ws := fun ws v1 v2 g =>
        ⟨(g.grown.cell a0 (by simp; omega)), (g.grown.cell a1 (by simp; omega)), (g.grown.cell a2 (by simp; omega)), g.kept kwr (by omega)⟩
      have HgX2 := Lib.hid hgX
      have Hlt := Lib.hid HG.out.lt
      clear hgX HgX HG HG0 hG0
      go_wp2_with fail
      clear a0 a1 a2
      obtain ⟨wo, hwo⟩ : ∃ wo, wo = wr := ⟨wr, rfl⟩
      subst hwo
      go_loopw [5] (fun i wx => ∃ k : Nat, k ≤ M.length ∧ i = .int .i64 ((k : Int) - 1) ∧ ∃ v, Hid (wx.ownsRow wo.heap.size 31 9 v (M.drop k).reverse.length (recs (M.drop k).reverse)) ∧ Hid (Grows wo wx bd (.int .i64 f) (.slice o1 LR.length cp1) v)) (fun i _ => (intOf i + 1).toNat)
      case atStart => exact ⟨M.length, Nat.le_refl _, rfl, .slice none 0 0, by rw [List.drop_length]; exact World.ownsRow_nil _ _ _ _, HG3.out⟩
      case round =>
        obtain ⟨k, hk, rfl, v, HO2, HG⟩ := hrel
        by_cases hk0 : 0 < k
        · obtain ⟨p, rfl⟩ : ∃ p, k = p + 1 := ⟨k - 1, by omega⟩
          rw [show (((p + 1 : Nat) : Int) - 1) = (p : Int) from by omega]
          obtain ⟨a0, a1, a2, kws⟩ := HgX2.out wr _ _ HG.out
          obtain ⟨b, off, rfl, c0, c1, c2, c3, c4, c5, c6, c7, c8⟩ := (HM.out.kept kws).cells p (by omega)
          obtain ⟨o2, cp2, rfl⟩ := owns_form' HO2.out
          have d1 := HG.out.c2
          have HD := Lib.hid (drop_rev M p (by omega))
          generalize M[p]! = r at *
          obtain ⟨s, xa, xb, xk, xm, xd, xo, xw, xc⟩ := r
          dsimp only at c0 c1 c2 c3 c4 c5 c6 c7 c8
          have hp0 : (0 : Int) ≤ (p : Int) := by omega
          have hp1 : (p : Int) < (M.length : Int) := by omega
          have hRl : (M.drop (p + 1)).reverse.length ≤ 30 := by simp; omega
          generalize (M.drop (p + 1)).reverse = R at *
          have hle := HG.out.grown.size
          have hown := HO2.out
          have hbr := HG.out.ltr
          clear HO2
          go_wp2_with fail
          go_region_law ((refine step_append_lies _ (by rfl) _ _ _ (by rfl) wo.heap.size 31 iF _ 9 80 Try.underlying23 hiF hzF0 hzF1 hzF2 rfl (by omega) (.slice o2 R.length cp2) R.length (recs R) (by rfl) ((hown.alloc _).drew) ⟨wr.heap.size, 0, none⟩ 1 1 [.string s, .int .i64 xa, .int .i64 xb, .int .i64 xk, .int .i64 xm, .int .i64 xd, .int .i64 xo, .int .i64 xw, .int .i64 xc] (by rfl) (by rfl) (World.news_of_block (cs := #[.string s, .int .i64 xa, .int .i64 xb, .int .i64 xk, .int .i64 xm, .int .i64 xd, .int .i64 xo, .int .i64 xw, .int .i64 xc]) (t := 31) (fr := (0, 0)) (heap_alloc_new wr _)) (by simp [Value.oneCell']) (by omega) (by unfold maxLen; omega) (by omega) (by simp; omega) (wr.heap.size + 1) (by simp) ?_; intro gg cap v1 hown1 hgrow hat hlt; have hG1 := ((HG.out.alloc _).drew).of_same hgrow (fun k e => (hown.lt k e).1); have e1 := hG1.c2; have e2 := hG1.z2; have hG2 := fun u => Lib.hid (hG1.set2 u); have hO2 := fun u => Lib.hid (ownsRow_setCell_below hown1 (a := ⟨bd, 2, none⟩) HG.out.lt u); clear hG1 hown1 hgrow hat hlt))
          all_goals (clear a0 a1 a2 c0 c1 c2 c3 c4 c5 c6 c7 c8 d1 hp1 hown HG e1 e2)
          all_goals go_wp2
          all_goals go_roundw
          all_goals first
            | exact ⟨p, by omega, by go_num, _, (by rw [HD.out, List.length_append, List.length_singleton, recs_snoc]; exact (hO2 _).out), hG2 _⟩
            | simp [intOf]
        · obtain rfl : k = 0 := by omega
          rw [List.drop_zero] at HO2
          rw [show (((0 : Nat) : Int) - 1) = -1 from by omega]
          obtain ⟨a0, a1, a2, kws⟩ := HgX2.out wr _ _ HG.out
          obtain ⟨o2, cp2, rfl⟩ := owns_form' HO2.out
          have HkR2 : Hid (∀ r ∈ M.reverse, r.ok) := (show ∀ r ∈ M.reverse, r.ok from fun r hr => HkM.out r (List.mem_reverse.1 hr))
          generalize M.reverse = MR at *
          have d0 := HG.out.c0
          have d1 := HG.out.c1
          have d2 := HG.out.c2
          have hbs := HG.out.ltr
          have hwr : w.heap.size < wr.heap.size := by omega
          have R1 := recs_of_owns' (owns_grows HG.out HO.out (by omega))
          have R2 := recs_of_owns' HO2.out
          have KC := Lib.hid (fun w' (k : Kept wr w') => CCheck_any f o o' q q' L M w' (HL.out.kept (kws.trans k)) (HM.out.kept (kws.trans k)) HkL.out HkM.out)
          have KD := Lib.hid (fun w' (k : Kept wr w') => CCheck_any f o1 o2 cp1 cp2 LR MR w' (R1.kept k) (R2.kept k) HkR.out HkR2.out)
          rw [HB.out] at KD
          generalize catB f L M = cb at *
          generalize chV cb = cv at *
          clear HB HkR HkR2 HG HO HO2 R1 R2 HgX2 HG3 Hlt hkw2 hkW hzw hzW HL HM HkL HkM KF
          go_wp2_with fail
          refine wp_region_held_drew (S := fun w' => Kept (wr) w' ∧ (∀ b o, b < (wr).heap.size → w'.cell? ⟨b, o, none⟩ = (wr).cell? ⟨b, o, none⟩)) (by kernel_rfl) (held_of (Kept.drew (Kept.refl _))) (fun hHeld => ?_)
          first
          | (refine wpAnyH_take (i := 0) (v := ?_) (Array.getElem?_eq_getElem (by decide)) (by kernel_rfl) (by kernel_rfl) (by kernel_rfl) (fun _ _ _ h => h) (Or.inl ⟨by rfl, ?_⟩) (by assumption) ?_; rotate_left; (intro w hSw; (try dsimp only at hSw); go_simp; done); simp only [Act.put, List.setIfInBounds_toArray, List.set_cons_zero, List.set_cons_succ, List.getElem_toArray, List.getElem_cons_succ, List.getElem_cons_zero])
          | (refine wpAnyH_take (i := 0) (v := ?_) (Array.getElem?_eq_getElem (by decide)) (by kernel_rfl) (by kernel_rfl) (by kernel_rfl) (fun _ _ _ h => h) (Or.inl ⟨by rfl, ?_⟩) (by assumption) ?_; rotate_left; (intro w hSw; (try dsimp only at hSw); go_simp; with_reducible rfl); simp only [Act.put, List.setIfInBounds_toArray, List.set_cons_zero, List.set_cons_succ, List.getElem_toArray, List.getElem_cons_succ, List.getElem_cons_zero])
          | (refine wpAnyH_take (i := 0) (v := undef) (Array.getElem?_eq_getElem (by decide)) (by kernel_rfl) (by kernel_rfl) (by kernel_rfl) (fun _ _ _ h => h) (Or.inr ⟨by rfl, rfl⟩) (by assumption) ?_; simp only [Act.put, List.setIfInBounds_toArray, List.set_cons_zero, List.set_cons_succ, List.getElem_toArray, List.getElem_cons_succ, List.getElem_cons_zero])
          first
          | (refine wpAnyH_take (i := 2) (v := ?_) (Array.getElem?_eq_getElem (by decide)) (by kernel_rfl) (by kernel_rfl) (by kernel_rfl) (fun _ _ _ h => h) (Or.inl ⟨by rfl, ?_⟩) (by assumption) ?_; rotate_left; (intro w hSw; (try dsimp only at hSw); go_simp; done); simp only [Act.put, List.setIfInBounds_toArray, List.set_cons_zero, List.set_cons_succ, List.getElem_toArray, List.getElem_cons_succ, List.getElem_cons_zero])
          | (refine wpAnyH_take (i := 2) (v := ?_) (Array.getElem?_eq_getElem (by decide)) (by kernel_rfl) (by kernel_rfl) (by kernel_rfl) (fun _ _ _ h => h) (Or.inl ⟨by rfl, ?_⟩) (by assumption) ?_; rotate_left; (intro w hSw; (try dsimp only at hSw); go_simp; with_reducible rfl); simp only [Act.put, List.setIfInBounds_toArray, List.set_cons_zero, List.set_cons_succ, List.getElem_toArray, List.getElem_cons_succ, List.getElem_cons_zero])
          | (refine wpAnyH_take (i := 2) (v := undef) (Array.getElem?_eq_getElem (by decide)) (by kernel_rfl) (by kernel_rfl) (by kernel_rfl) (fun _ _ _ h => h) (Or.inr ⟨by rfl, rfl⟩) (by assumption) ?_; simp only [Act.put, List.setIfInBounds_toArray, List.set_cons_zero, List.set_cons_succ, List.getElem_toArray, List.getElem_cons_succ, List.getElem_cons_zero])
          refine wpAnyH_ready (rs := [1]) (by kernel_rfl) (by simp) ?_
          refine AllReadyH.cons rfl (fun K hK => ?_) AllReadyH.nil
          go_simp
          go_at_call 14
          (with_reducible refine (KC.out _ (And.left (by assumption))).mono ?_)
          rintro e v1 ⟨rfl, hq1⟩
          refine hK.out _ _ (held_of (Kept.trans (And.left (by assumption)) (by assumption))) (fun hHeld1 => ?_)
          clear hK K
          try simp only [Act.put, List.setIfInBounds_toArray, List.set_cons_zero, List.set_cons_succ, List.getElem_toArray, List.getElem_cons_succ, List.getElem_cons_zero]
          refine wpAnyH_ready (rs := [3]) (by kernel_rfl) (by simp) ?_
          refine AllReadyH.cons rfl (fun K hK => ?_) AllReadyH.nil
          go_simp
          go_at_call 14
          (with_reducible refine (KD.out _ (And.left (by assumption))).mono ?_)
          rintro e v3 ⟨rfl, hq3⟩
          refine hK.out _ _ (held_of (Kept.trans (And.left (by assumption)) (by assumption))) (fun hHeld3 => ?_)
          clear hK K
          try simp only [Act.put, List.setIfInBounds_toArray, List.set_cons_zero, List.set_cons_succ, List.getElem_toArray, List.getElem_cons_succ, List.getElem_cons_zero]
          first
          | (refine wpAnyH_take (i := 4) (v := ?_) (Array.getElem?_eq_getElem (by decide)) (by kernel_rfl) (by kernel_rfl) (by kernel_rfl) (fun _ _ _ h => h) (Or.inl ⟨by rfl, ?_⟩) (by assumption) ?_; rotate_left; (intro w hSw; (try dsimp only at hSw); go_simp; done); simp only [Act.put, List.setIfInBounds_toArray, List.set_cons_zero, List.set_cons_succ, List.getElem_toArray, List.getElem_cons_succ, List.getElem_cons_zero])
          | (refine wpAnyH_take (i := 4) (v := ?_) (Array.getElem?_eq_getElem (by decide)) (by kernel_rfl) (by kernel_rfl) (by kernel_rfl) (fun _ _ _ h => h) (Or.inl ⟨by rfl, ?_⟩) (by assumption) ?_; rotate_left; (intro w hSw; (try dsimp only at hSw); go_simp; with_reducible rfl); simp only [Act.put, List.setIfInBounds_toArray, List.set_cons_zero, List.set_cons_succ, List.getElem_toArray, List.getElem_cons_succ, List.getElem_cons_zero])
          | (refine wpAnyH_take (i := 4) (v := undef) (Array.getElem?_eq_getElem (by decide)) (by kernel_rfl) (by kernel_rfl) (by kernel_rfl) (fun _ _ _ h => h) (Or.inr ⟨by rfl, rfl⟩) (by assumption) ?_; simp only [Act.put, List.setIfInBounds_toArray, List.set_cons_zero, List.set_cons_succ, List.getElem_toArray, List.getElem_cons_succ, List.getElem_cons_zero])
          first
          | (refine wpAnyH_take (i := 5) (v := ?_) (Array.getElem?_eq_getElem (by decide)) (by kernel_rfl) (by kernel_rfl) (by kernel_rfl) (fun _ _ _ h => h) (Or.inl ⟨by rfl, ?_⟩) (by assumption) ?_; rotate_left; (intro w hSw; (try dsimp only at hSw); go_simp; done); simp only [Act.put, List.setIfInBounds_toArray, List.set_cons_zero, List.set_cons_succ, List.getElem_toArray, List.getElem_cons_succ, List.getElem_cons_zero])
          | (refine wpAnyH_take (i := 5) (v := ?_) (Array.getElem?_eq_getElem (by decide)) (by kernel_rfl) (by kernel_rfl) (by kernel_rfl) (fun _ _ _ h => h) (Or.inl ⟨by rfl, ?_⟩) (by assumption) ?_; rotate_left; (intro w hSw; (try dsimp only at hSw); go_simp; with_reducible rfl); simp only [Act.put, List.setIfInBounds_toArray, List.set_cons_zero, List.set_cons_succ, List.getElem_toArray, List.getElem_cons_succ, List.getElem_cons_zero])
          | (refine wpAnyH_take (i := 5) (v := undef) (Array.getElem?_eq_getElem (by decide)) (by kernel_rfl) (by kernel_rfl) (by kernel_rfl) (fun _ _ _ h => h) (Or.inr ⟨by rfl, rfl⟩) (by assumption) ?_; simp only [Act.put, List.setIfInBounds_toArray, List.set_cons_zero, List.set_cons_succ, List.getElem_toArray, List.getElem_cons_succ, List.getElem_cons_zero])
          refine wpAnyH_done (by kernel_rfl) ?_ _
          have hkv : Kept wr v3 := And.left (by assumption)
          go_wp2
          go_ret
          exact ⟨rfl, kws.trans hkv⟩
theorem CatalogueOrder_walk (f : Int) (o o' : Option Addr) (q q' : Nat) (L M : List Rec) (w : World) (hL : IsRecs w o L) (hM : IsRecs w o' M) (okL : ∀ r ∈ L, r.ok) (okM : ∀ r ∈ M, r.ok) (_lL : L.length ≤ maxLen) (_lM : M.length ≤ maxLen) (_hf : -9223372036854775808 ≤ f ∧ f ≤ 9223372036854775807) :
    Calls Try.prog 6 #[.agg #[.int .i64 f, .slice o L.length q, .slice o' M.length q']] w fun e w' => e = .returned (.bool true) ∧ Kept w w' := by
  by_cases h : L.length ≤ 8 ∧ M.length ≤ 30
  · exact Order_core f o o' q q' L M w hL hM okL okM h.1 h.2
  · have KF := Lib.hid (fun w => CFew_any f o o' q q' L M w)
    rw [decide_eq_false h] at KF
    clear hL hM okL okM _lL _lM _hf
    go_enter Try.func6, Try.ntmps6
    go_wp2_with fail
    (go_at_call 7; refine (Cat_awake _).mono ?_; rintro e w1 ⟨rfl, hk1⟩)
    have hB1_1 := hk1
    obtain ⟨hc1_1, hf1_1⟩ := kept_cells hB1_1
    have hz1_0_1 : w.heap.size < w1.heap.size := by have := hB1_1.size; simp at this; omega
    go_wp2_with fail
    (go_at_call 17; refine (KF.out _).mono ?_; rintro e w2 ⟨rfl, hk2⟩)
    have hB1_2 := Kept.trans hB1_1 hk2
    obtain ⟨hc1_2, hf1_2⟩ := kept_cells hB1_2
    have hz1_0_2 : w.heap.size < w2.heap.size := by have := hB1_2.size; simp at this; omega
    go_wp2_with fail
    (go_at_call 7; refine (Cat_awake _).mono ?_; rintro e w3 ⟨rfl, hk3⟩)
    have hB1_3 := Kept.trans hB1_2 hk3
    obtain ⟨hc1_3, hf1_3⟩ := kept_cells hB1_3
    have hz1_0_3 : w.heap.size < w3.heap.size := by have := hB1_3.size; simp at this; omega
    go_wp2
    go_ret
    exact ⟨rfl, (by repeat (first | with_reducible exact Kept.refl _ | with_reducible assumption | with_reducible refine Kept.drew ?_ | with_reducible refine Kept.drewN ?_ _ | with_reducible refine Kept.alloc ?_ _ | (with_reducible refine Kept.setCell ?_ (by first | exact Nat.le_refl _ | omega | (simp; done) | (simp; omega)) _) | (with_reducible refine Kept.trans ?_ (by with_reducible assumption))))⟩

set_option maxRecDepth 100000 in
theorem CatalogueOrder_lifted (os : Os) (started : os.Started) (H : Type) (enc : TypeId × Value → H) :
    ReturnsInHanded {} Try.checked os 6 .any (Rows.catalogueOrderSpec.pre6 enc Try.prog Try.f6 Rows.catalogueOrderRow.domain false) (Rows.catalogueOrderSpec.post enc Try.prog Try.f6 false true false false) := by
  refine returnsInHanded_of_change (C := Try.checked) own_knob started (by kernel_rfl) Try.func6
    (ChangeSpec.witness6 (enc := enc) (C := Try.checked) false ⟨#[], #[.agg #[.int .i64 0, .slice none 0 0, .slice none 0 0]], []⟩ 8 (by kernel_rfl) (by kernel_rfl) (by kernel_rfl) (by kernel_rfl)) ?_
  intro W base args ds gs before hval0 hW hcnd _
  have hval : ∀ (j : Nat) t v, Try.f6.params[j]? = some t → args[j]? = some v → Value.okWide Try.prog W .any base t v := hval0
  clear hval0
  have hW' := hW
  obtain ⟨p, q, hA0, hV, rfl, hfz, hnd⟩ := hW
  have hA : DataW.TrodAll enc Try.prog W 0 (fun _ => true) true Try.f6.params.toList args.toList ds p := hA0
  rw [Try.params6] at hA hval
  have hAk : DataW.TrodAll enc Try.prog W 0 (fun _ => true) true [25] args.toList ds p := hA
  obtain ⟨v0, vs0, d0, ds0, p0, q_0, hargs, rfl, rfl, h0, r_0⟩ := trodAll_cons hA
  obtain ⟨rfl, rfl, rfl⟩ := trodAll_nil r_0
  obtain rfl : args = #[v0] := by cases args; simp_all
  obtain ⟨rfl, rfl⟩ := trodVars_none hV
  obtain ⟨f0, o0, oo0, q0, qq0, L0, M0, rfl, hL0, hM0, kL0, kM0, lL0, lM0, hf0⟩ := open_cat (hval 0 25 v0 rfl rfl) h0
  clear hA0
  have hlt := fun x hx => hW'.lt x hx
  have hrd : ∀ t ∈ [25], Try.prog.readableRec t = true ∧ t < Try.prog.types.size := by
    have hall : ([25].all fun u => Try.prog.readableRec u && decide (u < Try.prog.types.size)) = true := by kernel_rfl
    intro t ht
    have := List.all_eq_true.1 hall t ht
    simpa using this
  refine (CatalogueOrder_walk f0 o0 oo0 q0 qq0 L0 M0 W hL0 hM0 kL0 kM0 lL0 lM0 hf0).mono fun e W' ⟨he, hg⟩ => ?_
  subst he
  exact ⟨_, rfl, post_of_kept (pv := []) hW' (fun _ _ _ => (trodAll_cons_mk (shut_bool Try.underlying4 _) trodAll_mk0))
    (fun sp hsp => all_kept (by kernel_rfl) hrd hAk hg (fun x hx => hlt x (List.mem_append_left _ hx)) sp (fun x hx => hsp x (List.mem_append_left _ hx))) (fun _ _ => rfl) rfl
    hg (ok_one (by kernel_rfl) rfl (okWide_bool_mk Try.underlying4 _))⟩
theorem CatalogueOrder_proved : Rows.CatalogueOrderSaid :=
  OpenClaim.holds_of_wide 6 Try.f6 rfl rfl rfl rfl rfl rfl rfl ⟨rfl, rfl, rfl, rfl, rfl⟩ rfl rfl rfl rfl rfl (by kernel_rfl) Try.func6 (by kernel_rfl)
    (of_decide_eq_true (by kernel_rfl)) (by unfold Func.isWrapper; first | (rw [if_pos (by decide +kernel)]; kernel_rfl) | (rw [if_neg (by decide +kernel)]; exact ⟨rfl, rfl⟩))
    (fun os started H enc _ => CatalogueOrder_lifted os started H enc)
#print axioms CatalogueOrder_proved
end Go.Proofs.Ythhaicledbcnmaa

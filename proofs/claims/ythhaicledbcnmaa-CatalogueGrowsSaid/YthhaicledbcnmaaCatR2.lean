/- Contract: the reference of catalogue.Check: the walk. -/
import Derived.Test.YthhaicledbcnmaaCatR
set_option linter.unusedSimpArgs false
set_option linter.unusedVariables false
set_option linter.unusedSectionVars false
namespace Go.Proofs.Ythhaicledbcnmaa
open Go.ChangeShapes Go.WideShapes Go.ChangeAt Go.RowKit
set_option maxHeartbeats 2000000
set_option maxRecDepth 20000

set_option maxHeartbeats 16000000 in
theorem RCheck_good (f : Int) (o o' : Option Addr) (q q' : Nat) (L M : List Rec) (w : World) (hL : IsRecs w o L) (hM : IsRecs w o' M) (okL : ∀ r ∈ L, r.ok) (okM : ∀ r ∈ M, r.ok)
    (hf : 0 ≤ f ∧ f ≤ 9) (h1 : 1 ≤ L.length ∧ L.length ≤ 20) (h2 : M.length ≤ 400) :
    Calls Try.prog 15 #[.agg #[.int .i64 f, .slice o L.length q, .slice o' M.length q']] w fun e w' => e = .returned (.bool (catB f L M)) ∧ Kept w w' := by
  obtain ⟨hf1, hf2⟩ := hf
  obtain ⟨hl1, hl2⟩ := h1
  obtain ⟨i0, hi, hz0', hz1, hz2⟩ := info_parts info_str
  have HL := Lib.hid hL
  have HM := Lib.hid hM
  have HTL := Lib.hid (take_ids L)
  have HTM := Lib.hid (take_ids M)
  have HKL := Lib.hid (fun j hj => okL _ (mem_at L j hj))
  have HKM := Lib.hid (fun j hj => okM _ (mem_at M j hj))
  have HNo : Hid (((∃ j, j < L.length ∧ seaR L[j]! = false) ∨ (∃ j, j < M.length ∧ feaR M[j]! = false)) ∨ ¬ (ids L ++ ids M).Nodup → catB f L M = false) := (show _ → _ from fun h => by
    unfold catB
    rw [decide_eq_false_iff_not]
    intro ⟨_, _, _, a, b, c⟩
    rcases h with (⟨j, hj, h⟩ | ⟨j, hj, h⟩) | h
    · rw [a _ (mem_at L j hj)] at h; cases h
    · rw [b _ (mem_at M j hj)] at h; cases h
    · exact h c)
  have HYes : Hid ((∀ r ∈ L, seaR r = true) → (∀ r ∈ M, feaR r = true) → (ids L ++ ids M).Nodup → catB f L M = true) := (show _ → _ → _ → _ from fun a b c => decide_eq_true ⟨⟨hf1, hf2⟩, ⟨hl1, hl2⟩, h2, a, b, c⟩)
  clear hL hM okL okM
  generalize catB f L M = res at *
  have g0 : ((L.length : Int) == 0) = false := beq_false_of_ne (by omega)
  go_enter Try.func15, Try.ntmps15
  go_wp2
  go_loopw [3, 4] (fun v i wr => ∃ j : Nat, j ≤ L.length ∧ i = .int .i64 j ∧ wr.ownsRow (w.heap.size + 1) 9 1 v (ids (L.take j)).length (strs (ids (L.take j))) ∧ Kept (w.alloc (.cells #[.int .i64 f, .slice o L.length q, .slice o' M.length q'] 25)) wr ∧ Hid (∀ r ∈ L.take j, seaR r = true)) (fun _ i _ => (L.length - intOf i).toNat)
  case atStart => exact ⟨0, by omega, rfl, World.ownsRow_nil _ _ _ _, Kept.refl _, fun r h => by simp at h⟩
  case round =>
    obtain ⟨j, hj, rfl, hown, hkw, HS⟩ := hrel
    by_cases hlt : j < L.length
    · obtain ⟨b, off, rfl, c0, c1, c2, c3, c4, c5, c6, c7, c8⟩ := (HL.out.kept (Kept.trans ((Kept.refl w).alloc _) hkw)).cells j hlt
      have hok := HKL.out j hlt
      have HT := Lib.hid (HTL.out j hlt)
      have hsea : seaB (L[j]!).s (L[j]!).a (L[j]!).b (L[j]!).k (L[j]!).m (L[j]!).d (L[j]!).o (L[j]!).wd (L[j]!).c = seaR L[j]! := rfl
      have HNj : Hid (seaR L[j]! = false → res = false) := (show _ → _ from fun h => HNo.out (.inl (.inl ⟨j, hlt, h⟩)))
      have HSj : Hid (seaR L[j]! = true → ∀ r ∈ L.take (j + 1), seaR r = true) := (show _ → _ from fun h r hr => by
        rw [HT.out, List.mem_append, List.mem_singleton] at hr
        rcases hr with hr | rfl
        · exact HS.out r hr
        · exact h)
      have HEj : Hid (ids (L.take (j + 1)) = ids (L.take j) ++ [(L[j]!).s]) := (show _ = _ from by rw [HT.out, ids_snoc])
      have hbl : (ids (L.take j)).length = j := by simp [ids]; omega
      clear HT HS
      generalize seaR L[j]! = sb at *
      generalize L[j]! = r at *
      obtain ⟨s, xa, xb, xk, xm, xd, xo, xw, xc⟩ := r
      dsimp only at c0 c1 c2 c3 c4 c5 c6 c7 c8 hsea HEj
      obtain ⟨hs1, hs2⟩ := hok
      dsimp only at hs1 hs2
      have KS := Lib.hid (fun w => rSeason_any s xa xb xk xm xd xo xw xc w hs2)
      rw [hsea] at KS
      obtain ⟨hbx, hby⟩ := kept_cells hkw
      have hbz : w.heap.size < wr.heap.size := by have := hkw.size; simp at this; omega
      have hz0 := lt_cellL c0
      generalize hbs : ids (L.take j) = S at *
      go_wp2_with fail
      go_at_call 11
      (with_reducible refine (KS.out _).mono ?_)
      rintro e w2 ⟨rfl, hk2⟩
      have hkw2 := hkw.trans hk2
      have c0' := (hk2.cell _ _ hz0).trans c0
      have hown2 := owns_kept' hown hk2
      obtain ⟨hbx2, hby2⟩ := kept_cells hkw2
      have hbz2 : w.heap.size < w2.heap.size := by have := hkw2.size; simp at this; omega
      clear c0 c1 c2 c3 c4 c5 c6 c7 c8 KS hbx hby hbz
      have hkwF := Kept.trans ((Kept.refl w).alloc _) hkw2
      cases sb with
      | false =>
        have HF := Lib.hid (HNj.out rfl)
        clear HNj HSj hbx2 hby2 hbz2 hown hown2
        go_wp2
        go_ret
        exact ⟨by first | rfl | (rw [HF.out]; rfl), hkwF⟩
      | true =>
        have HS2 := Lib.hid (HSj.out rfl)
        have Hown := Lib.hid hown2
        have hown3 := hown2.alloc (.cells #[.string s] 9)
        clear HNj HSj hown hown2
        go_wp2_with (at_builtin; refine wpList_append_own _ rfl _ _ 48 rfl (w.heap.size + 1) 9 i0 (.string ⟨#[]⟩) 1 16 Try.underlying48 hi hz0' hz1 hz2 rfl (by decide) _ _ _ rfl hown3 ⟨w2.heap.size, 0, none⟩ 1 1 [.string s] rfl rfl ?c1L ?c2L ?c3L ?c4L ?c5L ?_)
        case c1L => exact cell_str_new w2 (.string s) 9
        case c2L => simp [Value.oneCell']
        case c3L => unfold maxLen; omega
        case c4L => omega
        case c5L => simp; omega
        intro v' w3 hown1 hgrow _
        have hk3 := Below.grown (hkw2.alloc (.cells #[.string s] 9)) hgrow (by simp; omega) (fun q hq => by have := (Hown.out.lt q hq).1; simp; omega)
        rw [← strs_snoc] at hown1
        have hown4 : w3.ownsRow (w.heap.size + 1) 9 1 v' (ids (L.take (j + 1))).length (strs (ids (L.take (j + 1)))) := by
          rw [HEj.out, List.length_append, List.length_singleton, hbl]
          exact hown1
        clear hgrow hown3 hown1 hbx2 hby2 hbz2
        go_wp2
        go_roundw
        case rel => exact ⟨j + 1, by omega, by go_num, hown4, hk3, HS2⟩
        case measure => simp [intOf]; omega
    · obtain rfl : j = L.length := by omega
      rw [List.take_length] at hown HS
      obtain ⟨hbx, hby⟩ := kept_cells hkw
      have hbz : w.heap.size < wr.heap.size := by have := hkw.size; simp at this; omega
      have HSL := HS
      clear HS
      go_wp2_with fail
      clear hbx hby hbz
      go_loopw [3, 5] (fun v i wr => ∃ j : Nat, j ≤ M.length ∧ i = .int .i64 j ∧ wr.ownsRow (w.heap.size + 1) 9 1 v (ids L ++ ids (M.take j)).length (strs (ids L ++ ids (M.take j))) ∧ Kept (w.alloc (.cells #[.int .i64 f, .slice o L.length q, .slice o' M.length q'] 25)) wr ∧ Hid (∀ r ∈ M.take j, feaR r = true)) (fun _ i _ => (M.length - intOf i).toNat)
      case atStart => exact ⟨0, by omega, rfl, by simpa [ids] using hown, hkw, fun r h => by simp at h⟩
      case round =>
        clear hown hkw
        obtain ⟨j, hj, rfl, hown, hkw, HS⟩ := hrel
        by_cases hlt : j < M.length
        · obtain ⟨b, off, rfl, c0, c1, c2, c3, c4, c5, c6, c7, c8⟩ := (HM.out.kept (Kept.trans ((Kept.refl w).alloc _) hkw)).cells j hlt
          have hok := HKM.out j hlt
          have HT := Lib.hid (HTM.out j hlt)
          have hsea : feaB (M[j]!).s (M[j]!).a (M[j]!).b (M[j]!).k (M[j]!).m (M[j]!).d (M[j]!).o (M[j]!).wd (M[j]!).c = feaR M[j]! := rfl
          have HNj : Hid (feaR M[j]! = false → res = false) := (show _ → _ from fun h => HNo.out (.inl (.inr ⟨j, hlt, h⟩)))
          have HSj : Hid (feaR M[j]! = true → ∀ r ∈ M.take (j + 1), feaR r = true) := (show _ → _ from fun h r hr => by
            rw [HT.out, List.mem_append, List.mem_singleton] at hr
            rcases hr with hr | rfl
            · exact HS.out r hr
            · exact h)
          have HEj : Hid (ids L ++ ids (M.take (j + 1)) = ids L ++ ids (M.take j) ++ [(M[j]!).s]) := (show _ = _ from by rw [HT.out, ids_snoc, ← List.append_assoc])
          have hbl : (ids L ++ ids (M.take j)).length = L.length + j := by simp [ids]; omega
          clear HT HS
          generalize feaR M[j]! = sb at *
          generalize M[j]! = r at *
          obtain ⟨s, xa, xb, xk, xm, xd, xo, xw, xc⟩ := r
          dsimp only at c0 c1 c2 c3 c4 c5 c6 c7 c8 hsea HEj
          obtain ⟨hs1, hs2⟩ := hok
          dsimp only at hs1 hs2
          have KS := Lib.hid (fun w => rFeast_any s xa xb xk xm xd xo xw xc w hs2)
          rw [hsea] at KS
          obtain ⟨hbx, hby⟩ := kept_cells hkw
          have hbz : w.heap.size < wr.heap.size := by have := hkw.size; simp at this; omega
          have hz0 := lt_cellL c0
          generalize hbs : ids L ++ ids (M.take j) = S at *
          go_wp2_with fail
          go_at_call 13
          (with_reducible refine (KS.out _).mono ?_)
          rintro e w2 ⟨rfl, hk2⟩
          have hkw2 := hkw.trans hk2
          have c0' := (hk2.cell _ _ hz0).trans c0
          have hown2 := owns_kept' hown hk2
          obtain ⟨hbx2, hby2⟩ := kept_cells hkw2
          have hbz2 : w.heap.size < w2.heap.size := by have := hkw2.size; simp at this; omega
          clear c0 c1 c2 c3 c4 c5 c6 c7 c8 KS hbx hby hbz
          have hkwF := Kept.trans ((Kept.refl w).alloc _) hkw2
          cases sb with
          | false =>
            have HF := Lib.hid (HNj.out rfl)
            clear HNj HSj hbx2 hby2 hbz2 hown hown2
            go_wp2
            go_ret
            exact ⟨by first | rfl | (rw [HF.out]; rfl), hkwF⟩
          | true =>
            have HS2 := Lib.hid (HSj.out rfl)
            have Hown := Lib.hid hown2
            have hown3 := hown2.alloc (.cells #[.string s] 9)
            clear HNj HSj hown hown2
            go_wp2_with (at_builtin; refine wpList_append_own _ rfl _ _ 48 rfl (w.heap.size + 1) 9 i0 (.string ⟨#[]⟩) 1 16 Try.underlying48 hi hz0' hz1 hz2 rfl (by decide) _ _ _ rfl hown3 ⟨w2.heap.size, 0, none⟩ 1 1 [.string s] rfl rfl ?c1M ?c2M ?c3M ?c4M ?c5M ?_)
            case c1M => exact cell_str_new w2 (.string s) 9
            case c2M => simp [Value.oneCell']
            case c3M => unfold maxLen; omega
            case c4M => omega
            case c5M => simp; omega
            intro v' w3 hown1 hgrow _
            have hk3 := Below.grown (hkw2.alloc (.cells #[.string s] 9)) hgrow (by simp; omega) (fun q hq => by have := (Hown.out.lt q hq).1; simp; omega)
            rw [← strs_snoc] at hown1
            have hown4 : w3.ownsRow (w.heap.size + 1) 9 1 v' (ids L ++ ids (M.take (j + 1))).length (strs (ids L ++ ids (M.take (j + 1)))) := by
              rw [HEj.out, List.length_append, List.length_singleton, hbl]
              exact hown1
            clear hgrow hown3 hown1 hbx2 hby2 hbz2
            go_wp2
            go_roundw
            case rel => exact ⟨j + 1, by omega, by go_num, hown4, hk3, HS2⟩
            case measure => simp [intOf]; omega
        · obtain rfl : j = M.length := by omega
          rw [List.take_length] at hown HS
          have hkwF := Kept.trans ((Kept.refl w).alloc _) hkw
          have HNod := Lib.hid (fun h => HNo.out (.inr h))
          have HY2 := Lib.hid (HYes.out HSL.out HS.out)
          have hSl : (ids L ++ ids M).length = L.length + M.length := by simp [ids]
          have HNA := Lib.hid (fun a k ha hk he => HNod.out (not_nodup (ids L ++ ids M) a k ha hk he))
          have HYA := Lib.hid (fun h => HY2.out (nodup_of (ids L ++ ids M) h))
          clear HNod HY2 HSL HS HYes HNo HTL HTM HKL HKM HL HM
          obtain ⟨ov, qv, rfl, hST⟩ := strs_of_owns hown
          have HST := Lib.hid hST
          obtain ⟨hbx, hby⟩ := kept_cells hkw
          have hbz : w.heap.size < wr.heap.size := by have := hkw.size; simp at this; omega
          clear hST hown hkw
          generalize ids L ++ ids M = S at *
          obtain ⟨wR, hwR⟩ : ∃ x : World, x = wr := ⟨_, rfl⟩
          rw [← hwR] at HST hkwF
          have hk0 : Kept wR wr := by rw [hwR]; exact Kept.refl _
          clear hwR
          go_wp2_with fail
          clear hbx hby hbz
          go_loopw [6] (fun i ws => ∃ a : Nat, a ≤ S.length ∧ i = .int .i64 a ∧ Kept wR ws ∧ Hid (∀ x, x < a → ∀ k, k < x → S.getD x ByteArray.empty ≠ S.getD k ByteArray.empty)) (fun i _ => (S.length - intOf i).toNat)
          case atStart => exact ⟨0, by omega, rfl, hk0, fun x h => absurd h (Nat.not_lt_zero _)⟩
          case round =>
            obtain ⟨a, ha, rfl, hkr, HA⟩ := hrel
            by_cases hla : a < S.length
            · go_wp2_with fail
              go_loopw [7] (fun i ws => ∃ k : Nat, k ≤ a ∧ i = .int .i64 k ∧ Kept wR ws ∧ Hid (∀ x, x < k → S.getD a ByteArray.empty ≠ S.getD x ByteArray.empty)) (fun i _ => (a - intOf i).toNat)
              case atStart => exact ⟨0, by omega, rfl, hkr, fun x h => absurd h (Nat.not_lt_zero _)⟩
              case round =>
                clear hkr
                obtain ⟨k, hk, rfl, hkr, HK⟩ := hrel
                by_cases hlk : k < a
                · obtain ⟨b1, rfl, e1⟩ := (HST.out.kept hkr) a hla
                  obtain ⟨b2, e2', e2⟩ := (HST.out.kept hkr) k (by omega)
                  obtain rfl : b2 = b1 := by simpa using e2'.symm
                  have hkS : k < S.length := by omega
                  have HF : Hid (decide (S.getD a ByteArray.empty = S.getD k ByteArray.empty) = true → res = false) := (show _ → _ from fun h => HNA.out a k hla hlk (of_decide_eq_true h))
                  have HG : Hid (decide (S.getD a ByteArray.empty = S.getD k ByteArray.empty) = false → ∀ x, x < k + 1 → S.getD a ByteArray.empty ≠ S.getD x ByteArray.empty) := (show _ → _ from fun h x hx => by
                    by_cases e : x = k
                    · subst e; exact of_decide_eq_false h
                    · exact HK.out x (by omega))
                  have hse := str_eq (S.getD a ByteArray.empty) (S.getD k ByteArray.empty)
                  generalize decide (S.getD a ByteArray.empty = S.getD k ByteArray.empty) = eq at *
                  clear HK e2'
                  generalize S.getD a ByteArray.empty = sa at *
                  generalize S.getD k ByteArray.empty = sk at *
                  cases eq with
                  | true =>
                    have HR := Lib.hid (HF.out rfl)
                    clear HF HG
                    go_wp2
                    go_region
                    go_wp2
                    go_ret
                    exact ⟨by first | rfl | (rw [HR.out]; rfl), hkwF.trans (Kept.drew hkr)⟩
                  | false =>
                    have HR := Lib.hid (HG.out rfl)
                    clear HF HG
                    go_wp2
                    go_region
                    go_wp2
                    go_roundw
                    case rel => exact ⟨k + 1, by omega, by go_num, Kept.drew hkr, HR⟩
                    case measure => simp [intOf]; omega
                · obtain rfl : k = a := by omega
                  have HA2 : Hid (∀ x, x < k + 1 → ∀ y, y < x → S.getD x ByteArray.empty ≠ S.getD y ByteArray.empty) := (show ∀ x, _ from fun x hx y hy => by
                    by_cases e : x = k
                    · subst e; exact HK.out y hy
                    · exact HA.out x (by omega) y hy)
                  clear HA HK
                  go_wp2
                  go_roundw
                  case rel => exact ⟨k + 1, by omega, by go_num, hkr, HA2⟩
                  case measure => simp [intOf]; omega
            · obtain rfl : a = S.length := by omega
              have HR := Lib.hid (HYA.out HA.out)
              clear HYA HNA HA
              go_wp2
              go_ret
              exact ⟨by first | rfl | (rw [HR.out]; rfl), hkwF.trans hkr⟩
theorem RCheck_any (f : Int) (o o' : Option Addr) (q q' : Nat) (L M : List Rec) (w : World) (hL : IsRecs w o L) (hM : IsRecs w o' M) (okL : ∀ r ∈ L, r.ok) (okM : ∀ r ∈ M, r.ok) :
    Calls Try.prog 15 #[.agg #[.int .i64 f, .slice o L.length q, .slice o' M.length q']] w fun e w' => e = .returned (.bool (catB f L M)) ∧ Kept w w' := by
  by_cases h1 : 0 ≤ f
  · by_cases h2 : f ≤ 9
    · by_cases h3 : 1 ≤ L.length
      · by_cases h4 : L.length ≤ 20
        · by_cases h5 : M.length ≤ 400
          · exact RCheck_good f o o' q q' L M w hL hM okL okM ⟨h1, h2⟩ ⟨h3, h4⟩ h5
          · have e : catB f L M = false := by unfold catB; rw [decide_eq_false_iff_not]; exact fun g => h5 g.2.2.1
            rw [e]
            clear e hL hM okL okM
            go_enter Try.func15, Try.ntmps15
            go_wp2
            go_ret
            exact ⟨rfl, (by repeat (first | with_reducible exact Kept.refl _ | with_reducible assumption | with_reducible refine Kept.drew ?_ | with_reducible refine Kept.drewN ?_ _ | with_reducible refine Kept.alloc ?_ _ | (with_reducible refine Kept.setCell ?_ (by first | exact Nat.le_refl _ | omega | (simp; done) | (simp; omega)) _) | (with_reducible refine Kept.trans ?_ (by with_reducible assumption))))⟩
        · have e : catB f L M = false := by unfold catB; rw [decide_eq_false_iff_not]; exact fun g => h4 g.2.1.2
          rw [e]
          clear e hL hM okL okM
          go_enter Try.func15, Try.ntmps15
          go_wp2
          go_ret
          exact ⟨rfl, (by repeat (first | with_reducible exact Kept.refl _ | with_reducible assumption | with_reducible refine Kept.drew ?_ | with_reducible refine Kept.drewN ?_ _ | with_reducible refine Kept.alloc ?_ _ | (with_reducible refine Kept.setCell ?_ (by first | exact Nat.le_refl _ | omega | (simp; done) | (simp; omega)) _) | (with_reducible refine Kept.trans ?_ (by with_reducible assumption))))⟩
      · have e : catB f L M = false := by unfold catB; rw [decide_eq_false_iff_not]; exact fun g => h3 g.2.1.1
        rw [e]
        clear e hL hM okL okM
        go_enter Try.func15, Try.ntmps15
        go_wp2
        go_ret
        exact ⟨rfl, (by repeat (first | with_reducible exact Kept.refl _ | with_reducible assumption | with_reducible refine Kept.drew ?_ | with_reducible refine Kept.drewN ?_ _ | with_reducible refine Kept.alloc ?_ _ | (with_reducible refine Kept.setCell ?_ (by first | exact Nat.le_refl _ | omega | (simp; done) | (simp; omega)) _) | (with_reducible refine Kept.trans ?_ (by with_reducible assumption))))⟩
    · have e : catB f L M = false := by unfold catB; rw [decide_eq_false_iff_not]; exact fun g => h2 g.1.2
      rw [e]
      clear e hL hM okL okM
      go_enter Try.func15, Try.ntmps15
      go_wp2
      go_ret
      exact ⟨rfl, (by repeat (first | with_reducible exact Kept.refl _ | with_reducible assumption | with_reducible refine Kept.drew ?_ | with_reducible refine Kept.drewN ?_ _ | with_reducible refine Kept.alloc ?_ _ | (with_reducible refine Kept.setCell ?_ (by first | exact Nat.le_refl _ | omega | (simp; done) | (simp; omega)) _) | (with_reducible refine Kept.trans ?_ (by with_reducible assumption))))⟩
  · have e : catB f L M = false := by unfold catB; rw [decide_eq_false_iff_not]; exact fun g => h1 g.1.1
    rw [e]
    clear e hL hM okL okM
    go_enter Try.func15, Try.ntmps15
    go_wp2
    go_ret
    exact ⟨rfl, (by repeat (first | with_reducible exact Kept.refl _ | with_reducible assumption | with_reducible refine Kept.drew ?_ | with_reducible refine Kept.drewN ?_ _ | with_reducible refine Kept.alloc ?_ _ | (with_reducible refine Kept.setCell ?_ (by first | exact Nat.le_refl _ | omega | (simp; done) | (simp; omega)) _) | (with_reducible refine Kept.trans ?_ (by with_reducible assumption))))⟩
end Go.Proofs.Ythhaicledbcnmaa

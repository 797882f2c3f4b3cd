/- Contracts and plain lemmas: Cat1, Cat2, Pur0. -/
import Derived.Test.YtblaphkaklocfaaGreatDoorG05
import Derived.Test.YtblaphkaklocfaaGreatDoorG10
import Derived.Carry
set_option linter.unusedSimpArgs false
set_option linter.unusedVariables false
set_option linter.unusedSectionVars false
/- Contract: catalogue.Check. -/
namespace Go.Proofs.YtblaphkaklocfaaGreatDoor
open Go.ChangeShapes Go.WideShapes Go.ChangeAt Go.RowKit
set_option maxHeartbeats 2000000
set_option maxRecDepth 20000

theorem under_ms : Tryz.prog.underlying 248 = some (.map 9 4) := by kernel_rfl
theorem zero_b (w : World) : (zeroValue 4).run Tryz.prog w = .ok (.bool false) w := by kernel_rfl
/-- How a bool of the map reads. -/
def boElem (v : Value) : Option (DataW Unit × List MemPlace) :=
  match v with
  | .bool x => some (.lit (.bool x), [])
  | _ => none
theorem boElem_inv {v : Value} {x : Bool} {ps : List MemPlace} (h : boElem v = some (.lit (.bool x), ps)) : v = .bool x := by
  match v, h with
  | .bool y, h =>
    simp only [boElem, Option.some.injEq, Prod.mk.injEq, DataW.lit.injEq, Lit.bool.injEq] at h
    rw [h.1]
/-- What the map tells of a string. -/
theorem seen_look {w : World} {b n : Nat} {l : List ByteArray} (h : w.ownsMap Tryz.prog 9 boElem b n (seenD l)) (s : ByteArray) (hs : s.size ≤ maxLen) :
    (Instr.lookup 248 (.map (some b)) (.string s) false).run Tryz.prog w = .ok (.bool (inB s l)) w := by
  obtain ⟨v, ps, hrun, hv⟩ := h.lookup (t := 248) (e := 4) (Maps.string_keyed Tryz.underlying9) under_ms (zero_b w) (zd := .lit (.bool false)) (zp := []) rfl (Go.WideMaps.keyOf_string_mk Tryz.underlying9 hs)
  rw [(seen_all l).2 s] at hv
  rw [hrun, boElem_inv hv]
theorem cell_here (w : World) (cs : Array Value) (T : TypeId) (i : Nat) : (w.alloc (.cells cs T)).cell? ⟨w.heap.size, i, none⟩ = cs[i]? := World.cell?_alloc_mark w cs T (0, 0) i
def chV (b : Bool) : Int := if b then 0 else 4
theorem chV_t : chV true = 0 := rfl
theorem chV_f : chV false = 4 := rfl
theorem take_ids (L : List Rec) (j : Nat) (hj : j < L.length) : L.take (j + 1) = L.take j ++ [L[j]!] := by
  rw [List.take_add_one, List.getElem?_eq_getElem hj, List.getElem!_eq_getElem?_getD]
  simp [hj]
theorem mem_at (L : List Rec) (j : Nat) (hj : j < L.length) : L[j]! ∈ L := by
  rw [List.getElem!_eq_getElem?_getD, List.getElem?_eq_getElem hj]
  exact List.getElem_mem hj
theorem ids_snoc (L : List Rec) (r : Rec) : ids (L ++ [r]) = ids L ++ [r.s] := by simp [ids]
theorem nodup_snoc (l : List ByteArray) (s : ByteArray) (h : l.Nodup) (hn : s ∉ l) : (l ++ [s]).Nodup := by
  rw [List.nodup_append]
  refine ⟨h, by simp, ?_⟩
  intro a ha b hb
  simp at hb
  subst hb
  exact fun e => hn (e ▸ ha)
theorem owns_map_kept {w w' : World} {b n : Nat} {D : DataW Unit} (h : w.ownsMap Tryz.prog 9 boElem b n D) (k : Kept w w') : w'.ownsMap Tryz.prog 9 boElem b n D := by
  have hlt := h.lt
  obtain ⟨es, cl, h1, h2⟩ := h
  exact ⟨es, cl, (k.block b hlt).trans h1, h2⟩
set_option maxHeartbeats 8000000 in
theorem CCheck_good (f : Int) (o o' : Option Addr) (q q' : Nat) (L M : List Rec) (w : World) (hL : IsRecs w o L) (hM : IsRecs w o' M) (okL : ∀ r ∈ L, r.ok) (okM : ∀ r ∈ M, r.ok)
    (hf : 0 ≤ f ∧ f ≤ 9) (h1 : 1 ≤ L.length ∧ L.length ≤ 20) (h2 : M.length ≤ 400) :
    Calls Tryz.prog 152 #[.agg #[.int .i64 f, .slice o L.length q, .slice o' M.length q']] w fun e w' => e = .returned (.int .i64 (chV (catB f L M))) ∧ Kept w w' := by
  obtain ⟨hf1, hf2⟩ := hf
  obtain ⟨hl1, hl2⟩ := h1
  have hmm := @run_makeMap Tryz.prog
  have HL := Lib.hid hL
  have HM := Lib.hid hM
  have HTL := Lib.hid (take_ids L)
  have HTM := Lib.hid (take_ids M)
  have HKL := Lib.hid (fun j hj => okL _ (mem_at L j hj))
  have HKM := Lib.hid (fun j hj => okM _ (mem_at M j hj))
  have HNo : Hid ((∃ j, j < L.length ∧ (seaR L[j]! = false ∨ (L[j]!).s ∈ ids (L.take j))) ∨ (∃ j, j < M.length ∧ (feaR M[j]! = false ∨ (M[j]!).s ∈ ids L ++ ids (M.take j))) → catB f L M = false) := (show _ → _ from fun h => by
    unfold catB
    rw [decide_eq_false_iff_not]
    intro ⟨_, _, _, a, b, c⟩
    rcases h with ⟨j, hj, h | h⟩ | ⟨j, hj, h | h⟩
    · rw [a _ (mem_at L j hj)] at h; cases h
    · have e : L = L.take j ++ (L[j]! :: L.drop (j + 1)) := by
        conv => lhs; rw [← List.take_append_drop j L]
        rw [List.drop_eq_getElem_cons hj, List.getElem!_eq_getElem?_getD, List.getElem?_eq_getElem hj]
        rfl
      rw [e] at c
      unfold ids at c h
      rw [List.map_append, List.map_cons, List.append_assoc, List.nodup_append] at c
      exact c.2.2 _ h _ (by simp) rfl
    · rw [b _ (mem_at M j hj)] at h; cases h
    · have e : M = M.take j ++ (M[j]! :: M.drop (j + 1)) := by
        conv => lhs; rw [← List.take_append_drop j M]
        rw [List.drop_eq_getElem_cons hj, List.getElem!_eq_getElem?_getD, List.getElem?_eq_getElem hj]
        rfl
      rw [e] at c
      unfold ids at c h
      rw [List.map_append, List.map_cons, ← List.append_assoc, List.nodup_append] at c
      exact c.2.2 _ h _ (by simp) rfl)
  have HYes : Hid ((∀ r ∈ L, seaR r = true) → (∀ r ∈ M, feaR r = true) → (ids L ++ ids M).Nodup → catB f L M = true) := (show _ → _ → _ → _ from fun a b c => decide_eq_true ⟨⟨hf1, hf2⟩, ⟨hl1, hl2⟩, h2, a, b, c⟩)
  clear hL hM okL okM
  have g0 : ((L.length : Int) == 0) = false := beq_false_of_ne (by omega)
  generalize catB f L M = res at *
  have HV := Lib.hid (World.ownsMap_made (w.alloc (.cells #[.int .i64 f, .slice o L.length q, .slice o' M.length q'] 45)) Tryz.prog 9 boElem)
  go_enter Tryz.func152, Tryz.ntmps152
  go_wp2
  go_loopw [38] (fun i wr => ∃ j : Nat, j ≤ L.length ∧ i = .int .i64 j ∧ wr.ownsMap Tryz.prog 9 boElem (w.heap.size + 1) j (seenD (ids (L.take j))) ∧ wr.cell? ⟨w.heap.size, 2, none⟩ = some (.slice o' M.length q') ∧ Kept w wr ∧ Hid (∀ r ∈ L.take j, seaR r = true) ∧ Hid ((ids (L.take j)).Nodup)) (fun i _ => (L.length - intOf i).toNat)
  case atStart =>
    refine ⟨0, by omega, rfl, ?_, ?_, (by repeat (first | with_reducible exact Kept.refl _ | with_reducible assumption | with_reducible refine Kept.drew ?_ | with_reducible refine Kept.drewN ?_ _ | with_reducible refine Kept.alloc ?_ _ | (with_reducible refine Kept.setCell ?_ (by first | exact Nat.le_refl _ | omega | (simp; done) | (simp; omega)) _) | (with_reducible refine Kept.trans ?_ (by with_reducible assumption)))), fun r h => by simp at h, (show (ids (L.take 0)).Nodup from by simp [ids])⟩
    · have := HV.out
      rw [World.size_alloc] at this
      exact this
    · simp
  case round =>
    obtain ⟨j, hj, rfl, hown, hcM, hkw, HS, HD⟩ := hrel
    by_cases hlt : j < L.length
    · obtain ⟨b, off, rfl, c0, c1, c2, c3, c4, c5, c6, c7, c8⟩ := (HL.out.kept hkw).cells j hlt
      have hok := HKL.out j hlt
      have HT := Lib.hid (HTL.out j hlt)
      have hzm := lt_cellL hcM
      have hsea : seaB (L[j]!).s (L[j]!).a (L[j]!).b (L[j]!).k (L[j]!).m (L[j]!).d (L[j]!).o (L[j]!).wd (L[j]!).c = seaR L[j]! := rfl
      have HNj : Hid (seaR L[j]! = false ∨ inB (L[j]!).s (ids (L.take j)) = true → res = false) := (show _ → _ from fun h => HNo.out (.inl ⟨j, hlt, h.imp id (fun h => (inB_iff _ _).1 h)⟩))
      have HSj : Hid (seaR L[j]! = true → ∀ r ∈ L.take (j + 1), seaR r = true) := (show _ → _ from fun h r hr => by
        rw [HT.out, List.mem_append, List.mem_singleton] at hr
        rcases hr with hr | rfl
        · exact HS.out r hr
        · exact h)
      have HDj : Hid (inB (L[j]!).s (ids (L.take j)) = false → (ids (L.take (j + 1))).Nodup) := (show _ → _ from fun h => by
        rw [HT.out, ids_snoc]
        exact nodup_snoc _ _ HD.out (fun g => by rw [(inB_iff _ _).2 g] at h; cases h))
      have HEj : Hid (seenD (ids (L.take (j + 1))) = (seenD (ids (L.take j))).put (.string (L[j]!).s.data.toList) (.lit (.bool true))) := (show _ = _ from by rw [HT.out, ids_snoc, seenD_snoc])
      have HLk := Lib.hid (fun w2 h => seen_look (w := w2) (b := w.heap.size + 1) (n := j) (l := ids (L.take j)) h (L[j]!).s hok.1)
      clear HT HS HD
      generalize seaR L[j]! = sb at *
      generalize inB (L[j]!).s (ids (L.take j)) = ib at *
      generalize L[j]! = r at *
      obtain ⟨s, xa, xb, xk, xm, xd, xo, xw, xc⟩ := r
      dsimp only at c0 c1 c2 c3 c4 c5 c6 c7 c8 hsea HEj HLk
      obtain ⟨hs1, hs2⟩ := hok
      dsimp only at hs1 hs2
      have KS := Lib.hid (fun w => Season_any s xa xb xk xm xd xo xw xc w hs2)
      rw [hsea] at KS
      have hmb := hown.lt
      have hms := hkw.size
      go_wp2_with fail
      go_at_call 206
      (with_reducible refine (KS.out _).mono ?_)
      rintro e w2 ⟨rfl, hk2⟩
      have hkw2 : Kept w w2 := (hkw.alloc _).trans hk2
      have hk3 := Kept.trans ((Kept.refl wr).alloc _) hk2
      have cr := (hk2.cell wr.heap.size 0 (by simp)).trans (cell_here wr _ _ 0)
      have hcM2 := (hk3.cell _ _ hzm).trans hcM
      clear hcM
      have hown2 := owns_map_kept hown hk3
      have hsz2 := hkw2.size
      clear c0 c1 c2 c3 c4 c5 c6 c7 c8 KS hown
      cases sb with
      | false =>
        have HF := Lib.hid (HNj.out (.inl rfl))
        clear HNo HYes HNj
        go_wp2
        go_ret
        exact ⟨by first | rfl | (rw [HF.out, chV_f]; rfl) | (rw [HF.out, chV_t]; rfl), hkw2⟩
      | true =>
        have hrun := HLk.out w2 hown2
        cases ib with
        | true =>
          have HF := Lib.hid (HNj.out (.inr rfl))
          clear HNo HYes HNj
          go_wp2
          go_ret
          exact ⟨by first | rfl | (rw [HF.out, chV_f]; rfl) | (rw [HF.out, chV_t]; rfl), hkw2⟩
        | false =>
          have HS2 := Lib.hid (HSj.out rfl)
          have HD2 := Lib.hid (HDj.out rfl)
          clear HNj HSj HDj HLk
          go_wp2_with (first | (at_mapUpdate; refine wpList_mapUpdate_own _ rfl _ _ _ 248 rfl 9 4 (Maps.string_keyed Tryz.underlying9) under_ms boElem (w.heap.size + 1) (j) _ rfl hown2 (by unfold maxLen; omega) (.string s) (.bool true) (.string s.data.toList) rfl rfl (WideMaps.keyOf_string_mk Tryz.underlying9 hs1) (.lit (.bool true)) [] rfl ?_) | fail)
          intro w3 hown3 hgrow
          rw [← HEj.out] at hown3
          have hkw3 : Kept w w3 := Below.grown hkw2 hgrow (by omega) (fun q hq => by cases hq; omega)
          have hcM3 : w3.cell? ⟨w.heap.size, 2, none⟩ = some (.slice o' M.length q') := by
            have hzm2 := lt_cellL hcM2
            have hb := hgrow.block w.heap.size hzm2 (by simp)
            have : w3.cell? ⟨w.heap.size, 2, none⟩ = w2.cell? ⟨w.heap.size, 2, none⟩ := by unfold World.cell?; simp only [hb]
            exact this.trans hcM2
          clear hgrow hown2 hcM2 hrun HEj
          go_wp2
          go_roundw
          case rel => exact ⟨j + 1, by omega, by go_num, hown3, hcM3, hkw3, HS2, HD2⟩
          case measure => simp [intOf]; omega
    · obtain rfl : j = L.length := by omega
      rw [List.take_length] at hown HS HD
      have hzm := lt_cellL hcM
      go_wp2_with fail
      go_loopw [58] (fun i wr => ∃ j : Nat, j ≤ M.length ∧ i = .int .i64 j ∧ wr.ownsMap Tryz.prog 9 boElem (w.heap.size + 1) (L.length + j) (seenD (ids L ++ ids (M.take j))) ∧ Kept w wr ∧ Hid (∀ r ∈ M.take j, feaR r = true) ∧ Hid ((ids L ++ ids (M.take j)).Nodup)) (fun i _ => (M.length - intOf i).toNat)
      case atStart => exact ⟨0, by omega, rfl, by simpa [ids] using hown, hkw, fun r h => by simp at h, (show (ids L ++ ids (M.take 0)).Nodup from by simpa [ids] using HD.out)⟩
      case round =>
        have HSL := HS
        clear HS HD hown hkw hcM hzm
        obtain ⟨j, hj, rfl, hown, hkw, HS, HD⟩ := hrel
        by_cases hlt : j < M.length
        · obtain ⟨b, off, rfl, c0, c1, c2, c3, c4, c5, c6, c7, c8⟩ := (HM.out.kept hkw).cells j hlt
          have hok := HKM.out j hlt
          have HT := Lib.hid (HTM.out j hlt)
          have hsea : feaB (M[j]!).s (M[j]!).a (M[j]!).b (M[j]!).k (M[j]!).m (M[j]!).d (M[j]!).o (M[j]!).wd (M[j]!).c = feaR M[j]! := rfl
          have HNj : Hid (feaR M[j]! = false ∨ inB (M[j]!).s (ids L ++ ids (M.take j)) = true → res = false) := (show _ → _ from fun h => HNo.out (.inr ⟨j, hlt, h.imp id (fun h => (inB_iff _ _).1 h)⟩))
          have HSj : Hid (feaR M[j]! = true → ∀ r ∈ M.take (j + 1), feaR r = true) := (show _ → _ from fun h r hr => by
            rw [HT.out, List.mem_append, List.mem_singleton] at hr
            rcases hr with hr | rfl
            · exact HS.out r hr
            · exact h)
          have HDj : Hid (inB (M[j]!).s (ids L ++ ids (M.take j)) = false → (ids L ++ ids (M.take (j + 1))).Nodup) := (show _ → _ from fun h => by
            rw [HT.out, ids_snoc, ← List.append_assoc]
            exact nodup_snoc _ _ HD.out (fun g => by rw [(inB_iff _ _).2 g] at h; cases h))
          have HEj : Hid (seenD (ids L ++ ids (M.take (j + 1))) = (seenD (ids L ++ ids (M.take j))).put (.string (M[j]!).s.data.toList) (.lit (.bool true))) := (show _ = _ from by rw [HT.out, ids_snoc, ← List.append_assoc, seenD_snoc])
          have HLk := Lib.hid (fun w2 h => seen_look (w := w2) (b := w.heap.size + 1) (n := L.length + j) (l := ids L ++ ids (M.take j)) h (M[j]!).s hok.1)
          clear HT HS HD
          generalize feaR M[j]! = sb at *
          generalize inB (M[j]!).s (ids L ++ ids (M.take j)) = ib at *
          generalize M[j]! = r at *
          obtain ⟨s, xa, xb, xk, xm, xd, xo, xw, xc⟩ := r
          dsimp only at c0 c1 c2 c3 c4 c5 c6 c7 c8 hsea HEj HLk
          obtain ⟨hs1, hs2⟩ := hok
          dsimp only at hs1 hs2
          have KS := Lib.hid (fun w => Feast_any s xa xb xk xm xd xo xw xc w hs2)
          rw [hsea] at KS
          have hmb := hown.lt
          have hms := hkw.size
          go_wp2_with fail
          go_at_call 207
          (with_reducible refine (KS.out _).mono ?_)
          rintro e w2 ⟨rfl, hk2⟩
          have hkw2 : Kept w w2 := (hkw.alloc _).trans hk2
          have hk3 := Kept.trans ((Kept.refl wr).alloc _) hk2
          have cr := (hk2.cell wr.heap.size 0 (by simp)).trans (cell_here wr _ _ 0)
          have hown2 := owns_map_kept hown hk3
          have hsz2 := hkw2.size
          clear c0 c1 c2 c3 c4 c5 c6 c7 c8 KS hown
          cases sb with
          | false =>
            have HF := Lib.hid (HNj.out (.inl rfl))
            clear HNo HYes HNj
            go_wp2
            go_ret
            exact ⟨by first | rfl | (rw [HF.out, chV_f]; rfl) | (rw [HF.out, chV_t]; rfl), hkw2⟩
          | true =>
            have hrun := HLk.out w2 hown2
            cases ib with
            | true =>
              have HF := Lib.hid (HNj.out (.inr rfl))
              clear HNo HYes HNj
              go_wp2
              go_ret
              exact ⟨by first | rfl | (rw [HF.out, chV_f]; rfl) | (rw [HF.out, chV_t]; rfl), hkw2⟩
            | false =>
              have HS2 := Lib.hid (HSj.out rfl)
              have HD2 := Lib.hid (HDj.out rfl)
              clear HNj HSj HDj HLk
              go_wp2_with (first | (at_mapUpdate; refine wpList_mapUpdate_own _ rfl _ _ _ 248 rfl 9 4 (Maps.string_keyed Tryz.underlying9) under_ms boElem (w.heap.size + 1) (L.length + j) _ rfl hown2 (by unfold maxLen; omega) (.string s) (.bool true) (.string s.data.toList) rfl rfl (WideMaps.keyOf_string_mk Tryz.underlying9 hs1) (.lit (.bool true)) [] rfl ?_) | fail)
              intro w3 hown3 hgrow
              rw [← HEj.out] at hown3
              have hkw3 : Kept w w3 := Below.grown hkw2 hgrow (by omega) (fun q hq => by cases hq; omega)
              clear hgrow hown2 hrun HEj
              go_wp2
              go_roundw
              case rel => exact ⟨j + 1, by omega, by go_num, by rw [Nat.add_assoc] at hown3; exact hown3, hkw3, HS2, HD2⟩
              case measure => simp [intOf]; omega
        · obtain rfl : j = M.length := by omega
          rw [List.take_length] at hown HS HD
          have HF := Lib.hid (HYes.out HSL.out HS.out HD.out)
          clear HNo HYes
          go_wp2
          go_ret
          exact ⟨by first | rfl | (rw [HF.out, chV_f]; rfl) | (rw [HF.out, chV_t]; rfl), hkw⟩
end Go.Proofs.YtblaphkaklocfaaGreatDoor
/- Contracts: catalogue.Check at every catalogue; Find; Few; id. -/
namespace Go.Proofs.YtblaphkaklocfaaGreatDoor
open Go.ChangeShapes Go.WideShapes Go.ChangeAt Go.RowKit
set_option maxHeartbeats 2000000
set_option maxRecDepth 20000

theorem CCheck_any (f : Int) (o o' : Option Addr) (q q' : Nat) (L M : List Rec) (w : World) (hL : IsRecs w o L) (hM : IsRecs w o' M) (okL : ∀ r ∈ L, r.ok) (okM : ∀ r ∈ M, r.ok) :
    Calls Tryz.prog 152 #[.agg #[.int .i64 f, .slice o L.length q, .slice o' M.length q']] w fun e w' => e = .returned (.int .i64 (chV (catB f L M))) ∧ Kept w w' := by
  by_cases h1 : 0 ≤ f
  · by_cases h2 : f ≤ 9
    · by_cases h3 : 1 ≤ L.length
      · by_cases h4 : L.length ≤ 20
        · by_cases h5 : M.length ≤ 400
          · exact CCheck_good f o o' q q' L M w hL hM okL okM ⟨h1, h2⟩ ⟨h3, h4⟩ h5
          · have e : catB f L M = false := by unfold catB; rw [decide_eq_false_iff_not]; exact fun g => h5 g.2.2.1
            have g0 : ((L.length : Int) == 0) = false := beq_false_of_ne (by omega)
            rw [e, chV_f]
            clear e hL hM okL okM
            go_enter Tryz.func152, Tryz.ntmps152
            go_wp2
            go_ret
            exact ⟨rfl, (by repeat (first | with_reducible exact Kept.refl _ | with_reducible assumption | with_reducible refine Kept.drew ?_ | with_reducible refine Kept.drewN ?_ _ | with_reducible refine Kept.alloc ?_ _ | (with_reducible refine Kept.setCell ?_ (by first | exact Nat.le_refl _ | omega | (simp; done) | (simp; omega)) _) | (with_reducible refine Kept.trans ?_ (by with_reducible assumption))))⟩
        · have e : catB f L M = false := by unfold catB; rw [decide_eq_false_iff_not]; exact fun g => h4 g.2.1.2
          have g0 : ((L.length : Int) == 0) = false := beq_false_of_ne (by omega)
          rw [e, chV_f]
          clear e hL hM okL okM
          go_enter Tryz.func152, Tryz.ntmps152
          go_wp2
          go_ret
          exact ⟨rfl, (by repeat (first | with_reducible exact Kept.refl _ | with_reducible assumption | with_reducible refine Kept.drew ?_ | with_reducible refine Kept.drewN ?_ _ | with_reducible refine Kept.alloc ?_ _ | (with_reducible refine Kept.setCell ?_ (by first | exact Nat.le_refl _ | omega | (simp; done) | (simp; omega)) _) | (with_reducible refine Kept.trans ?_ (by with_reducible assumption))))⟩
      · have e : catB f L M = false := by unfold catB; rw [decide_eq_false_iff_not]; exact fun g => h3 g.2.1.1
        have g0 : L.length = 0 := by omega
        rw [e, chV_f]
        clear e hL hM okL okM
        rw [g0]
        go_enter Tryz.func152, Tryz.ntmps152
        go_wp2
        go_ret
        exact ⟨rfl, (by repeat (first | with_reducible exact Kept.refl _ | with_reducible assumption | with_reducible refine Kept.drew ?_ | with_reducible refine Kept.drewN ?_ _ | with_reducible refine Kept.alloc ?_ _ | (with_reducible refine Kept.setCell ?_ (by first | exact Nat.le_refl _ | omega | (simp; done) | (simp; omega)) _) | (with_reducible refine Kept.trans ?_ (by with_reducible assumption))))⟩
    · have e : catB f L M = false := by unfold catB; rw [decide_eq_false_iff_not]; exact fun g => h2 g.1.2
      rw [e, chV_f]
      clear e hL hM okL okM
      go_enter Tryz.func152, Tryz.ntmps152
      go_wp2
      go_ret
      exact ⟨rfl, (by repeat (first | with_reducible exact Kept.refl _ | with_reducible assumption | with_reducible refine Kept.drew ?_ | with_reducible refine Kept.drewN ?_ _ | with_reducible refine Kept.alloc ?_ _ | (with_reducible refine Kept.setCell ?_ (by first | exact Nat.le_refl _ | omega | (simp; done) | (simp; omega)) _) | (with_reducible refine Kept.trans ?_ (by with_reducible assumption))))⟩
  · have e : catB f L M = false := by unfold catB; rw [decide_eq_false_iff_not]; exact fun g => h1 g.1.1
    rw [e, chV_f]
    clear e hL hM okL okM
    go_enter Tryz.func152, Tryz.ntmps152
    go_wp2
    go_ret
    exact ⟨rfl, (by repeat (first | with_reducible exact Kept.refl _ | with_reducible assumption | with_reducible refine Kept.drew ?_ | with_reducible refine Kept.drewN ?_ _ | with_reducible refine Kept.alloc ?_ _ | (with_reducible refine Kept.setCell ?_ (by first | exact Nat.le_refl _ | omega | (simp; done) | (simp; omega)) _) | (with_reducible refine Kept.trans ?_ (by with_reducible assumption))))⟩
theorem CFew_any (f : Int) (o o' : Option Addr) (q q' : Nat) (L M : List Rec) (w : World) :
    Calls Tryz.prog 26 #[.agg #[.int .i64 f, .slice o L.length q, .slice o' M.length q']] w fun e w' => e = .returned (.bool (decide (L.length ≤ 8 ∧ M.length ≤ 30))) ∧ Kept w w' := by
  by_cases h1 : L.length ≤ 8
  · by_cases h2 : M.length ≤ 30
    · rw [decide_eq_true ⟨h1, h2⟩]
      have g : decide ((M.length : Int) ≤ 30) = true := decide_eq_true (by omega)
      go_enter Tryz.func26, Tryz.ntmps26
      go_wp2
      go_ret
      exact ⟨rfl, (by repeat (first | with_reducible exact Kept.refl _ | with_reducible assumption | with_reducible refine Kept.drew ?_ | with_reducible refine Kept.drewN ?_ _ | with_reducible refine Kept.alloc ?_ _ | (with_reducible refine Kept.setCell ?_ (by first | exact Nat.le_refl _ | omega | (simp; done) | (simp; omega)) _) | (with_reducible refine Kept.trans ?_ (by with_reducible assumption))))⟩
    · rw [decide_eq_false (by omega)]
      have g : decide ((M.length : Int) ≤ 30) = false := decide_eq_false (by omega)
      go_enter Tryz.func26, Tryz.ntmps26
      go_wp2
      go_ret
      exact ⟨rfl, (by repeat (first | with_reducible exact Kept.refl _ | with_reducible assumption | with_reducible refine Kept.drew ?_ | with_reducible refine Kept.drewN ?_ _ | with_reducible refine Kept.alloc ?_ _ | (with_reducible refine Kept.setCell ?_ (by first | exact Nat.le_refl _ | omega | (simp; done) | (simp; omega)) _) | (with_reducible refine Kept.trans ?_ (by with_reducible assumption))))⟩
  · rw [decide_eq_false (by omega)]
    have g : decide ((L.length : Int) ≤ 8) = false := decide_eq_false (by omega)
    go_enter Tryz.func26, Tryz.ntmps26
    go_wp2
    go_ret
    exact ⟨rfl, (by repeat (first | with_reducible exact Kept.refl _ | with_reducible assumption | with_reducible refine Kept.drew ?_ | with_reducible refine Kept.drewN ?_ _ | with_reducible refine Kept.alloc ?_ _ | (with_reducible refine Kept.setCell ?_ (by first | exact Nat.le_refl _ | omega | (simp; done) | (simp; omega)) _) | (with_reducible refine Kept.trans ?_ (by with_reducible assumption))))⟩
/-- The identifier at a place of a catalogue. -/
def idAt (L M : List Rec) (i : Nat) : ByteArray := if i < L.length then (L[i]!).s else (M[i - L.length]!).s
/-- The first place that bears an identifier, or -1. -/
def fndN (s : ByteArray) : Nat → List Rec → Int
  | _, [] => -1
  | n, r :: t => if r.s = s then (n : Int) else fndN s (n + 1) t
def fndB (s : ByteArray) (M : List Rec) : Int := fndN s 0 M
end Go.Proofs.YtblaphkaklocfaaGreatDoor
/- Plain: what ordo.Build computes, as functions on lists. -/
namespace Go.Proofs.YtblaphkaklocfaaGreatDoor
open Go.ChangeShapes Go.WideShapes Go.ChangeAt Go.RowKit
set_option maxHeartbeats 1000000
set_option maxRecDepth 20000

/-- The count-th day with a day of the week from a day on, or back from it. -/
def nthDay (n wd c : Int) : Int := if 0 < c then n + (wd - n) % 7 + 7 * (c - 1) else n - (n - wd) % 7 + 7 * (c + 1)
/-- The day of an anchor in a year. -/
def ancDay (k m d o wd c y : Int) : Int := if k = 2 then esN 2 y + o else if k = 3 then nthDay (num 2 y m d) wd c else num 2 y m d
def recDay (y : Int) (r : Rec) : Int := ancDay r.k r.m r.d r.o r.wd r.c y
def daysOf (y : Int) (L : List Rec) : List Int := L.map (recDay y)
/-- The last place with the greatest number that is not above a bound. -/
def lastLe (p : Int → Bool) : Nat → List Int → Option (Nat × Int) → Option (Nat × Int)
  | _, [], b => b
  | i, s :: t, none => lastLe p (i + 1) t (if p s then some (i, s) else none)
  | i, s :: t, some (j, f) => lastLe p (i + 1) t (if p s && decide (f ≤ s) then some (i, s) else some (j, f))
/-- The start of the season of a day, and its place. -/
def seaAt (S : List Int) (first day : Int) : Int × Nat :=
  match lastLe (fun s => decide (s ≤ day)) 0 S none with
  | some (i, s) => (s, i)
  | none =>
    match lastLe (fun _ => true) 0 S none with
    | some (i, _) => (first - 1, i)
    | none => (first - 1, 0)
/-- A celebration that falls on a day. -/
structure Cand where
  kind : Int
  idx : Nat
  rank : Int
  id : ByteArray
instance : Inhabited Cand := ⟨⟨0, 0, 0, ByteArray.empty⟩⟩
def Cand.vals (c : Cand) : List Value := [.int .i64 c.kind, .int .i64 c.idx, .int .i64 c.rank, .string c.id]
def tempC (L : List Rec) (S : List Int) (first day : Int) : Cand :=
  ⟨1, (seaAt S first day).2, if day % 7 = 0 then (L[(seaAt S first day).2]!).a else (L[(seaAt S first day).2]!).b, (L[(seaAt S first day).2]!).s⟩
/-- The feasts that fall on a day: from the k-th on. -/
def propF (day y : Int) : Nat → List Rec → List Cand
  | _, [] => []
  | k, r :: t => if recDay y r = day then ⟨2, k, r.a, r.s⟩ :: propF day y (k + 1) t else propF day y (k + 1) t
def candsAt (L M : List Rec) (y first day : Int) : List Cand := tempC L (daysOf y L) first day :: propF day y 0 M
def precC (a b : Cand) : Bool := if a.rank = b.rank then (if a.kind = b.kind then decide (a.idx < b.idx) else decide (a.kind < b.kind)) else decide (a.rank < b.rank)
/-- Into a list that lies from the last element on: past those that it precedes. -/
def insB {α : Type} (lt : α → α → Bool) (x : α) : List α → List α
  | [] => [x]
  | z :: t => if lt x z then z :: insB lt x t else x :: z :: t
/-- The sorted list, from the last element on. -/
def isortR {α : Type} (lt : α → α → Bool) (l : List α) : List α := l.foldl (fun P x => insB lt x P) []
def sortC (l : List Cand) : List Cand := (isortR precC l).reverse
structure Res where
  p : Cand
  com : List Nat
  omi : List Nat
  imp : List Nat
instance : Inhabited Res := ⟨⟨default, [], [], []⟩⟩
def polOf (M : List Rec) (k : Nat) : Int := (M[k]!).b
def pick (M : List Rec) (pol : Int) (t : List Cand) : List Nat := (t.filter (fun x => decide (x.kind = 2) && decide (polOf M x.idx = pol))).map Cand.idx
def resolveC (M : List Rec) (l : List Cand) : Res :=
  match sortC l with
  | [] => default
  | p :: t => ⟨p, pick M 2 t, pick M 3 t, pick M 1 t⟩
def freeC (f : Int) (r : Res) : Bool := decide (f < r.p.rank)
structure Mov where
  feast : Nat
  src : Nat
  dst : Nat
instance : Inhabited Mov := ⟨⟨0, 0, 0⟩⟩
/-- The first free day from a place on that nobody has taken. -/
def toFrom (F : List Bool) (T : List Mov) : Nat → Nat → Option Nat
  | 0, _ => none
  | n + 1, d => if F[d]?.getD false && !(T.any (fun m => m.dst == d)) then some d else toFrom F T n (d + 1)
def moveDay (F : List Bool) (day : Nat) : List Nat → List Mov → Option (List Mov)
  | [], T => some T
  | f :: t, T =>
    match toFrom F T (F.length - (day + 1)) (day + 1) with
    | some d => moveDay F day t (T ++ [⟨f, day, d⟩])
    | none => none
def assignC (F : List Bool) : Nat → List (List Nat) → List Mov → Option (List Mov)
  | _, [], T => some T
  | day, i :: t, T =>
    match moveDay F day i T with
    | some T2 => assignC F (day + 1) t T2
    | none => none
def takenC (T : List Mov) (day : Nat) : Option Mov := T.find? (fun m => m.dst == day)
def displaceC (M : List Rec) (r : Res) : Res :=
  if r.p.kind = 2 then (if polOf M r.p.idx = 3 then ⟨default, r.com, r.p.idx :: r.omi, r.imp⟩ else ⟨default, r.p.idx :: r.com, r.omi, r.imp⟩) else ⟨default, r.com, r.omi, r.imp⟩
/-- A date: by search, as the calendar has it. -/
structure Day3 where
  y : Int
  m : Int
  d : Int
instance : Inhabited Day3 := ⟨⟨0, 0, 0⟩⟩
def monthIn (b : Bool) (r : Int) : Nat → Int → Int
  | 0, m => m
  | n + 1, m => if r < cum b (m + 1) then m else monthIn b r n (m + 1)
/-- The date of the r-th day (from 0) of a year. -/
def dateIn (y r : Int) : Day3 := ⟨y, monthIn (lp 2 y) r 12 1, r - cum (lp 2 y) (monthIn (lp 2 y) r 12 1) + 1⟩
structure Ent where
  date : Day3
  wd : Int
  sea : ByteArray
  week : Int
  kind : Int
  pri : ByteArray
  rank : Int
  src : Day3
  com : List ByteArray
  omi : List ByteArray
instance : Inhabited Ent := ⟨⟨default, 0, ByteArray.empty, 0, 0, ByteArray.empty, 0, default, [], []⟩⟩
def weekC (S : List Int) (first day : Int) : Int :=
  let s := (seaAt S first day).1
  let a := if s < first then first else s
  let sun := a + (0 - a) % 7
  if day < sun then 0 else (day - sun) / 7 + 1
def idsC (M : List Rec) (l : List Nat) : List ByteArray := l.map (fun k => (M[k]!).s)
def entC (L M : List Rec) (y first : Int) (T : List Mov) (i : Nat) (r : Res) : Ent :=
  let n := first + i
  let S := daysOf y L
  match takenC T i with
  | none => ⟨dateIn y i, n % 7, (L[(seaAt S first n).2]!).s, weekC S first n, r.p.kind, r.p.id, r.p.rank, default, idsC M r.com, idsC M r.omi⟩
  | some m => ⟨dateIn y i, n % 7, (L[(seaAt S first n).2]!).s, weekC S first n, 3, (M[m.feast]!).s, (M[m.feast]!).a, dateIn y (m.src : Int), idsC M (displaceC M r).com, idsC M (displaceC M r).omi⟩
def yearLen (y : Int) : Nat := if lp 2 y then 366 else 365
def resList (L M : List Rec) (y : Int) : List Res := (List.range (yearLen y)).map (fun i : Nat => resolveC M (candsAt L M y (fst 2 y) (fst 2 y + (i : Int))))
def movesC (f : Int) (L M : List Rec) (y : Int) : Option (List Mov) := assignC ((resList L M y).map (freeC f)) 0 ((resList L M y).map Res.imp) []
/-- The error of a calendar: 4, 1, 5, or none. -/
def buildE (f : Int) (L M : List Rec) (y : Int) : Int :=
  if catB f L M then (if 1583 ≤ y ∧ y ≤ 1000000000 then (if (movesC f L M y).isSome then 0 else 5) else 1) else 4
def entsC (L M : List Rec) (y : Int) (T : List Mov) : List Ent := (List.range (yearLen y)).map (fun i : Nat => entC L M y (fst 2 y) T i ((resList L M y)[i]!))
end Go.Proofs.YtblaphkaklocfaaGreatDoor

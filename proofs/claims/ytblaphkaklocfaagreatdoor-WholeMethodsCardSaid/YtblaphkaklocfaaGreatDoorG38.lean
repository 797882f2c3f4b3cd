/- Contract: builtin.Names: how many names there are. -/
import Derived.Test.YtblaphkaklocfaaGreatDoorG17
import Derived.Test.YtblaphkaklocfaaGreatDoorG21
import Derived.Test.YtblaphkaklocfaaGreatDoorG29
set_option linter.unusedSimpArgs false
set_option linter.unusedVariables false
set_option linter.unusedSectionVars false
namespace Go.Proofs.YtblaphkaklocfaaGreatDoor
open Go.ChangeShapes Go.WideShapes Go.ChangeAt Go.RowKit Go.Maps
set_option maxHeartbeats 8000000
set_option maxRecDepth 20000

theorem Grow_33 (w : World) : Calls Tryz.prog 180 #[.slice none 0 0, .int .i64 33] w fun e w' => ∃ gz q, e = .returned (.slice (some ⟨gz, 0, none⟩) 0 q) ∧ w'.ownsRow w.heap.size 9 1 (.slice (some ⟨gz, 0, none⟩) 0 q) 0 [] ∧ Kept w w' := by
  obtain ⟨i0, hi, hz0, hz1, hz2⟩ := info_parts info_string
  go_enter Tryz.func180, Tryz.ntmps180
  go_wp2_with fail
  go_ret
  have hc : 33 ≤ (Question.appendCap 33 0 9).cut (w.tape w.drawn (Question.appendCap 33 0 9)) ∧ (Question.appendCap 33 0 9).cut (w.tape w.drawn (Question.appendCap 33 0 9)) ≤ maxLen := by
    have hlt := Nat.mod_lt (w.tape w.drawn (.appendCap 33 0 9)) (show 0 < 2 ^ 63 - 33 by decide)
    simp only [Question.cut, maxLen]
    omega
  generalize (Question.appendCap 33 0 9).cut (w.tape w.drawn (Question.appendCap 33 0 9)) = c at *
  refine ⟨_, _, rfl, ⟨rfl, .inr ⟨w.heap.size, c, _, rfl, Nat.le_refl _, Array.getElem?_push_size, Nat.zero_le _, hc.2, ?_, rfl⟩⟩, by (repeat (first | with_reducible assumption | with_reducible exact Kept.refl _ | with_reducible apply Kept.drew | with_reducible apply Kept.alloc | (with_reducible refine Kept.setCell ?_ (by first | exact Nat.le_refl _ | (dsimp only; omega)) _)))⟩
  simp [Builtin.zeroCells]
  omega
theorem Concat_33 (o1 o2 : Option Addr) (q1 q2 : Nat) (l1 l2 : List ByteArray) (b1 b2 : Nat) (w : World) (h1 : w.ownsRow b1 9 1 (.slice o1 8 q1) 8 (strV l1)) (h2 : w.ownsRow b2 9 1 (.slice o2 25 q2) 25 (strV l2)) (g : Nat) (hg : Blk w g #[.slice o1 8 q1, .slice o2 25 q2] 54) :
    Calls Tryz.prog 126 #[.slice (some ⟨g, 0, none⟩) 2 2] w fun e w' => ∃ o q, e = .returned (.slice o 33 q) ∧ Kept w w' := by
  obtain ⟨i0, hi, hz0, hz1, hz2⟩ := info_parts info_string
  have KG := Lib.hid (fun w => Grow_33 w)
  have HG := Lib.hid hg
  have H1 := Lib.hid h1
  have H2 := Lib.hid h2
  clear hg h1 h2
  go_enter Tryz.func126, Tryz.ntmps126
  go_wp2_with fail
  go_loopw [3, 11] (fun sz i wr => ((i = .int .i64 0 ∧ sz = .int .i64 0) ∨ (i = .int .i64 1 ∧ sz = .int .i64 8) ∨ (i = .int .i64 2 ∧ sz = .int .i64 33)) ∧ Kept w wr) (fun _ i _ => (2 - intOf i).toNat)
  case atStart => exact ⟨.inl ⟨rfl, rfl⟩, by (repeat (first | with_reducible assumption | with_reducible exact Kept.refl _ | with_reducible apply Kept.drew | with_reducible apply Kept.alloc | (with_reducible refine Kept.setCell ?_ (by first | exact Nat.le_refl _ | (dsimp only; omega)) _)))⟩
  case round =>
    obtain ⟨hr, hkr⟩ := hrel
    have g0 : wr.cell? ⟨g, 0, none⟩ = some (.slice o1 8 q1) := ((HG.out.kept hkr).cell _).trans rfl
    have g1 : wr.cell? ⟨g, 1, none⟩ = some (.slice o2 25 q2) := ((HG.out.kept hkr).cell _).trans rfl
    have lg := (HG.out.kept hkr).lt
    rcases hr with ⟨rfl, rfl⟩ | ⟨rfl, rfl⟩ | ⟨rfl, rfl⟩
    · go_wp2_with fail
      exact ⟨⟨.inr (.inl ⟨rfl, rfl⟩), hkr⟩, by simp [intOf]⟩
    · go_wp2_with fail
      exact ⟨⟨.inr (.inr ⟨rfl, rfl⟩), hkr⟩, by simp [intOf]⟩
    · have K1 := Lib.hid hkr
      obtain ⟨wa, hwa⟩ : ∃ x, x = wr := ⟨_, rfl⟩
      subst hwa
      clear hkr g0 g1 lg
      go_wp2_with fail
      go_at_call 180
      refine (KG.out _).mono ?_
      rintro e w2 ⟨gz, qz, rfl, hown, hk2⟩
      have HO2 := Lib.hid (owns_base hown K1.out.size)
      have K2 := Lib.hid (K1.out.trans hk2)
      clear hown hk2
      go_wp2_with fail
      go_loopw [6, 27] (fun v i wr => ((i = .int .i64 0 ∧ ∃ gz qz, v = .slice (some ⟨gz, 0, none⟩) 0 qz ∧ Hid (wr.ownsRow w.heap.size 9 1 v 0 [])) ∨ (i = .int .i64 1 ∧ Hid (wr.ownsRow w.heap.size 9 1 v 8 (strV l1))) ∨ (i = .int .i64 2 ∧ Hid (wr.ownsRow w.heap.size 9 1 v 33 (strV l1 ++ strV l2)))) ∧ Kept w wr) (fun _ i _ => (2 - intOf i).toNat)
      case atStart => exact ⟨.inl ⟨rfl, _, _, rfl, HO2⟩, K2.out⟩
      clear HO2 K2
      case round =>
        obtain ⟨hr, hkr⟩ := hrel
        have KR := Lib.hid hkr
        have g0 : wr.cell? ⟨g, 0, none⟩ = some (.slice o1 8 q1) := ((HG.out.kept KR.out).cell _).trans rfl
        have g1 : wr.cell? ⟨g, 1, none⟩ = some (.slice o2 25 q2) := ((HG.out.kept KR.out).cell _).trans rfl
        have lg := (HG.out.kept KR.out).lt
        have A1 := Lib.hid (owns_kept H1.out KR.out)
        have A2 := Lib.hid (owns_kept H2.out KR.out)
        have hww := hkr.size
        clear hkr
        rcases hr with ⟨rfl, gz2, qz2, rfl, HO⟩ | ⟨rfl, HO⟩ | ⟨rfl, HO⟩
        · go_wp2_with (first | (at_builtin; refine wpList_append_src rfl _ _ 54 rfl w.heap.size 9 i0 (.string ⟨#[]⟩) 1 16 Tryz.underlying54 hi hz0 hz1 hz2 rfl (by decide) gz2 0 qz2 [] rfl HO.out b1 8 (.slice o1 8 q1) (strV l1) A1.out rfl (by intro x hx; obtain ⟨s, _, rfl⟩ := List.mem_map.1 hx; rfl) (by unfold maxLen; omega) (by omega) (by omega) ?_; intro v4 w4 hown4 hgrow4) | fail)
          exact ⟨⟨.inr (.inl ⟨rfl, Lib.hid (by have := hown4; rwa [Nat.zero_add, List.nil_append] at this)⟩), Below.grown KR.out hgrow4 (by omega) (fun q e => by injection e with e; subst e; exact (HO.out.lt _ rfl).1)⟩, by simp [intOf]⟩
        · obtain ⟨ga, ca, rfl, _, _, _⟩ := row_at HO.out (by omega)
          go_wp2_with (first | (at_builtin; refine wpList_append_src rfl _ _ 54 rfl w.heap.size 9 i0 (.string ⟨#[]⟩) 1 16 Tryz.underlying54 hi hz0 hz1 hz2 rfl (by decide) ga 8 ca (strV l1) rfl HO.out b2 25 (.slice o2 25 q2) (strV l2) A2.out rfl (by intro x hx; obtain ⟨s, _, rfl⟩ := List.mem_map.1 hx; rfl) (by unfold maxLen; omega) (by omega) (by omega) ?_; intro v4 w4 hown4 hgrow4) | fail)
          exact ⟨⟨.inr (.inr ⟨rfl, Lib.hid hown4⟩), Below.grown KR.out hgrow4 (by omega) (fun q e => by injection e with e; subst e; exact (HO.out.lt _ rfl).1)⟩, by simp [intOf]⟩
        · obtain ⟨oo, cc, rfl⟩ := owns_form HO.out
          go_wp2_with fail
          go_ret
          exact ⟨_, _, rfl, KR.out⟩
theorem collect_33 (o1 o2 : Option Addr) (q1 q2 : Nat) (l1 l2 : List ByteArray) (b1 b2 : Nat) (w : World) (h1 : w.ownsRow b1 9 1 (.slice o1 8 q1) 8 (strV l1)) (h2 : w.ownsRow b2 9 1 (.slice o2 25 q2) 25 (strV l2)) (g : Nat) (hg : Blk w g #[.slice o1 8 q1, .slice o2 25 q2] 54) :
    Calls Tryz.prog 80 #[.slice (some ⟨g, 0, none⟩) 2 2] w fun e w' => ∃ o q, e = .returned (.slice o 33 q) ∧ Kept w w' := by
  have KC := Lib.hid (Concat_33 o1 o2 q1 q2 l1 l2 b1 b2 w h1 h2 g hg)
  clear h1 h2 hg
  go_enter Tryz.func80, Tryz.ntmps80
  go_wp2_with fail
  go_at_call 126
  refine KC.out.mono ?_
  rintro e w1 ⟨o, q, rfl, hk1⟩
  go_wp2_with fail
  go_ret
  exact ⟨_, _, rfl, (by repeat (first | with_reducible exact Kept.refl _ | with_reducible assumption | with_reducible refine Kept.drew ?_ | with_reducible refine Kept.drewN ?_ _ | with_reducible refine Kept.alloc ?_ _ | (with_reducible refine Kept.setCell ?_ (by first | exact Nat.le_refl _ | omega | (simp; done) | (simp; omega)) _) | (with_reducible refine Kept.trans ?_ (by with_reducible assumption))))⟩
theorem Names_ok (w : World) : Calls Tryz.prog 33 #[] w fun e w' => ∃ o q, e = .returned (.slice o 33 q) ∧ Kept w w' := by
  obtain ⟨i0, hi, hz0, hz1, hz2⟩ := info_parts info_string
  have KC := Lib.hid (fun w => Cat_ok w)
  go_enter Tryz.func33, Tryz.ntmps33
  go_wp2_with fail
  go_at_call 31
  refine (KC.out _).mono ?_
  rintro e w1 ⟨o, o', rfl, hL, hM, hk1⟩
  have K1 := Lib.hid (Kept.trans (show Kept w _ from by (repeat (first | with_reducible assumption | with_reducible exact Kept.refl _ | with_reducible apply Kept.drew | with_reducible apply Kept.alloc | (with_reducible refine Kept.setCell ?_ (by first | exact Nat.le_refl _ | (dsimp only; omega)) _)))) hk1)
  have HL := Lib.hid hL
  have HM := Lib.hid hM
  clear hL hM hk1 KC
  obtain ⟨W1, hW1⟩ : ∃ x, x = w1.alloc (.cells #[.int .i64 5, .slice o 8 8, .slice o' 25 25] 45) := ⟨_, rfl⟩
  go_wp2_with fail
  rw [← hW1]
  have KW1 : Hid (Kept w1 W1) := (show Kept _ _ from by rw [hW1]; exact (Kept.refl _).alloc _)
  have bC : Hid (Blk W1 w1.heap.size #[.int .i64 5, .slice o 8 8, .slice o' 25 25] 45) := (show Blk _ _ _ _ from by rw [hW1]; exact Blk.new _ _ _)
  have HZ := Lib.hid (show w.heap.size ≤ W1.heap.size from (K1.out.trans KW1.out).size)
  have hL8 := Lib.hid (show bSeas.length = 8 from rfl)
  have hM25 := Lib.hid (show bFeas.length = 25 from rfl)
  clear hW1
  go_loopw [2, 12] (fun v i wr => ∃ (k : Nat) (l : List ByteArray), k ≤ 8 ∧ i = .int .i64 k ∧ l.length = k ∧ Hid (wr.ownsRow W1.heap.size 9 1 v k (strV l)) ∧ Kept W1 wr) (fun _ i _ => (8 - intOf i).toNat)
  case atStart => exact ⟨0, [], by omega, rfl, rfl, Lib.hid (World.ownsRow_nil _ _ _ _), Kept.refl _⟩
  case round =>
    obtain ⟨k, l, hk, rfl, hl, HO, hkr⟩ := hrel
    obtain ⟨oo, cc, rfl⟩ := owns_form HO.out
    have hww := hkr.size
    by_cases hlt : k < 8
    · obtain ⟨b, off, e3, c0, c1, c2, c3, c4, c5, c6, c7, c8⟩ := (HL.out.kept (KW1.out.trans hkr)).cells k (by rw [hL8.out]; exact hlt)
      subst e3
      generalize bSeas[k]! = r at *
      have hkz : (k : Int) < 8 := by omega
      have hown := HO.out
      have HSL := Lib.hid hl
      clear hl
      go_wp2_with (first | (at_builtin; refine wpList_append_own _ rfl _ _ 54 rfl W1.heap.size 9 i0 (.string ⟨#[]⟩) 1 16 Tryz.underlying54 hi hz0 hz1 hz2 rfl (by decide) _ _ _ rfl ((hown.alloc _).alloc _) ⟨wr.heap.size + 1, 0, none⟩ 1 1 [.string r.s] rfl rfl (by have := cell_one_new (wr.alloc (.cells r.vals.toArray 107)) (.string r.s) 9; rw [World.size_alloc] at this; exact this) (by simp [Value.oneCell']) (by unfold maxLen; omega) (by omega) (by simp; omega) ?_; intro v4 w4 hown4 hgrow4 _) | fail)
      exact ⟨⟨k + 1, l ++ [r.s], by omega, by go_num, by simp [HSL.out], Lib.hid (by rw [strV_snoc]; exact hown4), Below.grown ((hkr.alloc _).alloc _) hgrow4 (by simp; omega) (fun q e => (hown.lt q e).1)⟩, by simp [intOf]; omega⟩
    · obtain rfl : k = 8 := by omega
      rw [show ((8 : Nat) : Int) = 8 from rfl]
      have HS := Lib.hid (show wr.ownsRow W1.heap.size 9 1 (.slice oo 8 cc) l.length (strV l) by rw [hl]; exact HO.out)
      have c2 : wr.cell? ⟨w1.heap.size, 2, none⟩ = some (.slice o' 25 25) := ((bC.out.kept hkr).cell _).trans rfl
      have lc := (bC.out.kept hkr).lt
      obtain ⟨wa, hwa⟩ : ∃ x, x = wr := ⟨_, rfl⟩
      subst hwa
      have KA := Lib.hid hkr
      have HN := Lib.hid hl
      clear hl HO hkr hk hlt
      go_wp2_with fail
      go_loopw [3, 25] (fun v i wr => ∃ (k : Nat) (l : List ByteArray), k ≤ 25 ∧ i = .int .i64 k ∧ l.length = k ∧ Hid (wr.ownsRow wa.heap.size 9 1 v k (strV l)) ∧ Kept wa wr) (fun _ i _ => (25 - intOf i).toNat)
      case atStart => exact ⟨0, [], by omega, rfl, rfl, Lib.hid (World.ownsRow_nil _ _ _ _), Kept.refl _⟩
      case round =>
        obtain ⟨k, l2, hk, rfl, hl, HO, hkr⟩ := hrel
        obtain ⟨oo2, cc2, rfl⟩ := owns_form HO.out
        have hww := hkr.size
        by_cases hlt : k < 25
        · obtain ⟨b, off, e3, c0, c1, c2, c3, c4, c5, c6, c7, c8⟩ := (HM.out.kept ((KW1.out.trans KA.out).trans hkr)).cells k (by rw [hM25.out]; exact hlt)
          subst e3
          generalize bFeas[k]! = r at *
          have hkz : (k : Int) < 25 := by omega
          have hown := HO.out
          have HSL := Lib.hid hl
          clear hl
          go_wp2_with (first | (at_builtin; refine wpList_append_own _ rfl _ _ 54 rfl wa.heap.size 9 i0 (.string ⟨#[]⟩) 1 16 Tryz.underlying54 hi hz0 hz1 hz2 rfl (by decide) _ _ _ rfl ((hown.alloc _).alloc _) ⟨wr.heap.size + 1, 0, none⟩ 1 1 [.string r.s] rfl rfl (by have := cell_one_new (wr.alloc (.cells r.vals.toArray 66)) (.string r.s) 9; rw [World.size_alloc] at this; exact this) (by simp [Value.oneCell']) (by unfold maxLen; omega) (by omega) (by simp; omega) ?_; intro v4 w4 hown4 hgrow4 _) | fail)
          exact ⟨⟨k + 1, l2 ++ [r.s], by omega, by go_num, by simp [HSL.out], Lib.hid (by rw [strV_snoc]; exact hown4), Below.grown ((hkr.alloc _).alloc _) hgrow4 (by simp; omega) (fun q e => (hown.lt q e).1)⟩, by simp [intOf]; omega⟩
        · obtain rfl : k = 25 := by omega
          have HS1 := Lib.hid (owns_kept HS.out hkr)
          have HS2 := Lib.hid (show wr.ownsRow wa.heap.size 9 1 (.slice oo2 25 cc2) l2.length (strV l2) by rw [hl]; exact HO.out)
          have KZ := Lib.hid ((K1.out.trans KW1.out).trans (KA.out.trans hkr))
          have HN2 := Lib.hid hl
          clear hl hk hlt HO hkr hww
          go_wp2_with fail
          have hB := Lib.hid (Blk.new wr #[.slice oo 8 cc, .slice oo2 25 cc2] 54)
          have hA1 := Lib.hid (owns_kept HS1.out ((Kept.refl wr).alloc (.cells #[.slice oo 8 cc, .slice oo2 25 cc2] 54)))
          have hA2 := Lib.hid (owns_kept HS2.out ((Kept.refl wr).alloc (.cells #[.slice oo 8 cc, .slice oo2 25 cc2] 54)))
          go_at_call 80
          refine (collect_33 oo oo2 cc cc2 l l2 _ _ _ (by have := hA1.out; rwa [HN.out] at this) (by have := hA2.out; rwa [HN2.out] at this) _ hB.out).mono ?_
          rintro e wz ⟨oz, qz, rfl, hkz⟩
          go_wp2_with fail
          go_ret
          exact ⟨_, _, rfl, (KZ.out.alloc _).trans hkz⟩
end Go.Proofs.YtblaphkaklocfaaGreatDoor

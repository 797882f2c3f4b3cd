/- Contracts and plain lemmas: Bld, Bt0, Btr, Dtn. -/
import Derived.Test.YtblaphkaklocfaaGreatDoorG21
import Derived.Deep.RegionHeld3
import Derived.Deep.RegionLaw
import Derived.Deep.AppendLies
set_option linter.unusedSimpArgs false
set_option linter.unusedVariables false
set_option linter.unusedSectionVars false
/- Contract: ordo's resolve, at a well-formed catalogue and a year with a calendar. -/
namespace Go.Proofs.YtblaphkaklocfaaGreatDoor
open Go.ChangeShapes Go.WideShapes Go.ChangeAt Go.RowKit Go.Maps
set_option maxHeartbeats 8000000
set_option maxRecDepth 20000

theorem resolve_ok {f y : Int} {L M : List Rec} (C : Ctx f L M y) (o o' : Option Addr) (q q' : Nat) (w0 w : World) (I : Cin w0 o o' L M) (P : Nat) (h0 : Kept w0 w) (hp0 : w0.heap.size ≤ P) (n4 : Int) (v6 v7 v8 : Value)
    (hP : Blk w P #[.int .i64 f, .slice o L.length q, .slice o' M.length q', .int .i64 y, .int .i64 n4, .slice none 0 0, v6, v7, v8] 102)
    (hS : ∀ i, i < yearLen y → StableAt (candsY L M y i).length) :
    Calls Tryz.prog 53 #[.pointer (some ⟨P, 0, none⟩)] w fun e w' => ∃ vd l, e = .returned (.int .i64 0) ∧ Blk w' P #[.int .i64 f, .slice o L.length q, .slice o' M.length q', .int .i64 y, .int .i64 (fst 2 y), vd, v6, v7, v8] 102 ∧
      DaySt w.heap.size w' vd l ∧ l.map Prod.fst = resList L M y ∧ w.grownBy w' (some P) := by
  obtain ⟨i0, hi, hz0, hz1, hz2⟩ := info_parts info_result
  have KY := Lib.hid (fun w' (k : Kept w w') => Year_ok C o o' q q' w' ((I.kept h0).kept k))
  have c0 : w.cell? ⟨P, 0, none⟩ = some (.int .i64 f) := by rw [hP.cell]; rfl
  have c1 : w.cell? ⟨P, 1, none⟩ = some (.slice o L.length q) := by rw [hP.cell]; rfl
  have c2 : w.cell? ⟨P, 2, none⟩ = some (.slice o' M.length q') := by rw [hP.cell]; rfl
  have c3 : w.cell? ⟨P, 3, none⟩ = some (.int .i64 y) := by rw [hP.cell]; rfl
  have hlP := hP.lt
  have HP := Lib.hid hP
  have HI := Lib.hid I
  have H0 := Lib.hid h0
  have HS := Lib.hid hS
  have HC := Lib.hid C
  clear hP I h0 hS C
  unfold catV at KY
  go_enter Tryz.func53, Tryz.ntmps53
  go_wp2_with fail
  go_region_held3 (fun w' => Kept w w' ∧ (∀ b o, b < w.heap.size → w'.cell? ⟨b, o, none⟩ = w.cell? ⟨b, o, none⟩)) (exact held_of (by (repeat (first | with_reducible assumption | with_reducible exact Kept.refl _ | with_reducible apply Kept.drew)))) (first
    | (go_at_call 103; (with_reducible refine (KY.out _ ?_).mono ?_); (· (repeat (first | with_reducible assumption | with_reducible exact Kept.refl _ | with_reducible apply Kept.drew))); rintro e w1 ⟨v, vs, rfl, hvl, hown, hrows, hk1⟩; have kk1 : Kept w w1 := Kept.trans (by (repeat (first | with_reducible assumption | with_reducible exact Kept.refl _ | with_reducible apply Kept.drew))) hk1))
  obtain ⟨oS, cS, rfl⟩ := owns_form hown
  have HR1 := Lib.hid hrows
  have HO1 := Lib.hid hown
  have HK1 := Lib.hid kk1
  have hsz1 := kk1.size
  have HX := Lib.hid (cands_idx HC.out.hB y (fst 2 y))
  have HT := Lib.hid (resList_take L M y)
  have HRL := Lib.hid (resList_len L M y)
  have HP1 := Lib.hid (HP.out.kept kk1)
  have hln := (show (yearLen y) ≤ 366 from by unfold yearLen; split <;> omega)
  generalize yearLen y = n at *
  clear hrows hown kk1 hk1 KY c0 c1 c2 c3
  go_wp2_with fail
  go_loopw [21] (fun i wr => ∃ (j : Nat) (l : List RV) (vd : Value), j ≤ n ∧ i = .int .i64 j ∧ l.length = j ∧ Hid (Blk wr P #[.int .i64 f, .slice o L.length q, .slice o' M.length q', .int .i64 y, .int .i64 n4, vd, v6, v7, v8] 102) ∧ Hid (DaySt w1.heap.size wr vd l) ∧
      Hid (l.map Prod.fst = (resList L M y).take j) ∧ Hid (w1.grownBy wr (some P))) (fun i _ => (n - intOf i).toNat)
  case atStart => exact ⟨0, [], _, by omega, rfl, rfl, HP1, Lib.hid (DaySt.nil _ _), Lib.hid rfl, Lib.hid (World.grownBy.refl _ _)⟩
  case round =>
    obtain ⟨_, l, vd, hj, rfl, rfl, HB, HD, HL, HG⟩ := hrel
    obtain ⟨od, cd, rfl⟩ := owns_form HD.out.row
    by_cases hlt : l.length < n
    · have hoS := owns_grown HO1.out HG.out (.inr (owns_not_blk HO1.out HP1.out (by decide)))
      have hcr := owns_grown (HR1.out l.length (by omega)) HG.out (.inr (owns_not_blk (HR1.out l.length (by omega)) HP1.out (by decide)))
      obtain ⟨gS, c, e1, _, hgS, hcS⟩ := row_at hoS (by omega)
      simp only [Value.slice.injEq, true_and] at e1
      obtain ⟨rfl, rfl⟩ := e1
      have cS' := hcS l.length hlt
      have k0 : Hid (Kept w0 wr) := Below.grown (H0.out.trans HK1.out) HG.out (by have := H0.out.size; omega) (fun q e => by cases e; omega)
      have hTj := Lib.hid (HT.out l.length hlt)
      have hcl : 1 ≤ (candsY L M y l.length).length ∧ (candsY L M y l.length).length ≤ 1000 := by
        have := propF_len (fst 2 y + (l.length : Int)) y M 0
        have h4 := (catB_parts HC.out.hB).2.2.1
        show 1 ≤ (_ :: _).length ∧ (_ :: _).length ≤ 1000
        simp only [List.length_cons]
        omega
      have KR := Lib.hid (fun w' (k : Kept wr w') => Resolve_ok f o o' q q' L M w' ((HI.out.kept (k0.out.trans k)).hM) _ _ (candsY L M y l.length) (owns_kept hcr k) hcl.1 hcl.2 (HS.out l.length hlt) (HX.out _))
      generalize resolveC M (candsY L M y l.length) = rr at *
      generalize vs[l.length]! = vj at *
      obtain ⟨oj, cj, rfl⟩ := owns_form hcr
      obtain ⟨⟨pk, pi, pr, ps⟩, com, omi, imp⟩ := rr
      dsimp only [resV, catV] at KR
      have d0 : wr.cell? ⟨P, 0, none⟩ = some (.int .i64 f) := by rw [HB.out.cell]; rfl
      have d1 : wr.cell? ⟨P, 1, none⟩ = some (.slice o L.length q) := by rw [HB.out.cell]; rfl
      have d2 : wr.cell? ⟨P, 2, none⟩ = some (.slice o' M.length q') := by rw [HB.out.cell]; rfl
      have d5 : wr.cell? ⟨P, 5, none⟩ = some (.slice od l.length cd) := by rw [HB.out.cell]; rfl
      have hlB := HB.out.lt
      have hjz : (l.length : Int) < (n : Int) := by omega
      have hsG := HG.out.size
      clear hcS hoS hcr
      go_wp2_with fail
      go_region_law (first
        | (refine step_append_lies _ (by rfl) _ _ _ (by rfl) w1.heap.size 168 i0 _ 7 112 Tryz.underlying99 hi hz0 hz1 hz2 rfl (by omega) (.slice od l.length cd) l.length (flatR l) (by rfl) (hD2.out.row.alloc _) ⟨W2.heap.size, 0, none⟩ 1 1 [.int .i64 pk, .int .i64 pi, .int .i64 pr, .string ps, .slice x1 com.length y1, .slice x2 omi.length y2, .slice x3 imp.length y3] (by rfl) (by rfl) (World.news_of_block hna) hone (by omega) (by unfold maxLen; omega) (by omega) (by simp; omega) (W2.heap.size + 1) (by simp) ?_; intro gg cap v1 hown1 hgrow hat hlt1; have hB3 := (hB2.out.alloc (.cells #[.int .i64 pk, .int .i64 pi, .int .i64 pr, .string ps, .slice x1 com.length y1, .slice x2 omi.length y2, .slice x3 imp.length y3] 168)).grown hgrow (fun e => owns_not_blk hD2.out.row hB2.out (by decide) e.symm); have z5 : v1.cell? ⟨P, 5, none⟩ = some (.slice od l.length cd) := (by rw [hB3.cell]; rfl); have z6 := hB3.free 5; have HO3 := Lib.hid hown1; have HG3 := Lib.hid hgrow; have HB3 := Lib.hid hB3; clear hown1 hgrow hB3)
        | (go_simp; go_at_call 104; (with_reducible refine (KR.out _ ?_).mono ?_); (· (repeat (first | with_reducible assumption | with_reducible exact Kept.refl _ | with_reducible apply Kept.drew))); rintro e W2 ⟨u1, u2, u3, rfl, ro1, ro2, ro3, hk2⟩; obtain ⟨x1, y1, rfl⟩ := owns_form ro1; obtain ⟨x2, y2, rfl⟩ := owns_form ro2; obtain ⟨x3, y3, rfl⟩ := owns_form ro3; have kk2 : Kept wr W2 := Kept.trans (by (repeat (first | with_reducible assumption | with_reducible exact Kept.refl _ | with_reducible apply Kept.drew))) hk2; have hB2 := Lib.hid (HB.out.kept kk2); have hD2 := Lib.hid (HD.out.kept kk2); have y5 := (kk2.cell _ 5 hlB).trans d5; have hl2 := hB2.out.lt; have hs2 := kk2.size; have hna := Blk.new W2 #[.int .i64 pk, .int .i64 pi, .int .i64 pr, .string ps, .slice x1 com.length y1, .slice x2 omi.length y2, .slice x3 imp.length y3] 168; have hone : ∀ u ∈ ([.int .i64 pk, .int .i64 pi, .int .i64 pr, .string ps, .slice x1 com.length y1, .slice x2 omi.length y2, .slice x3 imp.length y3] : List Value), u.oneCell' = true := (by simp [Value.oneCell'])))
      all_goals go_wp2
      all_goals (
        have hx : RowsOK w1.heap.size (W2.alloc (.cells #[.int .i64 pk, .int .i64 pi, .int .i64 pr, .string ps, .slice x1 com.length y1, .slice x2 omi.length y2, .slice x3 imp.length y3] 168)) ((⟨⟨pk, pi, pr, ps⟩, com, omi, imp⟩, (.slice x1 com.length y1, .slice x2 omi.length y2, .slice x3 imp.length y3)) : RV) := RowsOK.kept (RowsOK.base ⟨ro1, ro2, ro3⟩ (by simpa using hsG)) ((Kept.refl W2).alloc _)
        have g1 : w1.grownBy W2 (some P) := HG.out.trans ⟨kk2.os, kk2.tape, kk2.output, kk2.size, fun k hk _ => kk2.block k hk⟩
        have g2 := g1.trans (World.grownBy_alloc W2 (.cells #[.int .i64 pk, .int .i64 pi, .int .i64 pr, .string ps, .slice x1 com.length y1, .slice x2 omi.length y2, .slice x3 imp.length y3] 168) (some P))
        have g3 := (g2.andThen HG3.out (fun q e => .inl ((hD2.out.row.lt q e).1))).trans (grown_setC v1 P 5 (.slice (some ⟨gg, 0, none⟩) (l.length + 1) cap))
        exact ⟨⟨l.length + 1, l ++ [((⟨⟨pk, pi, pr, ps⟩, com, omi, imp⟩, (.slice x1 com.length y1, .slice x2 omi.length y2, .slice x3 imp.length y3)) : RV)], _, by omega, by go_num, by simp, Lib.hid (blk_set HB3.out _ rfl), Lib.hid (((hD2.out.kept ((Kept.refl W2).alloc _)).step _ hx HO3.out HG3.out).set HB3.out (by decide) (by decide) _), Lib.hid (by rw [List.map_append, HL.out, hTj.out]; rfl), Lib.hid g3⟩, by simp [intOf]; omega⟩)
    · obtain rfl : n = l.length := by omega
      have d3 : wr.cell? ⟨P, 3, none⟩ = some (.int .i64 y) := by rw [HB.out.cell]; rfl
      have d4 : wr.cell? ⟨P, 4, none⟩ = some (.int .i64 n4) := by rw [HB.out.cell]; rfl
      have f4 := HB.out.free 4
      have hlB := HB.out.lt
      have KF := Lib.hid (fun w => First_ok y w (by have := HC.out.h1; omega) HC.out.h2)
      go_wp2_with fail
      go_at_call 105
      (with_reducible refine (KF.out _).mono ?_)
      rintro e wx ⟨rfl, rfl⟩
      go_wp2
      go_ret
      have gk : w.grownBy w1 (some P) := ⟨HK1.out.os, HK1.out.tape, HK1.out.output, HK1.out.size, fun k hk _ => HK1.out.block k hk⟩
      refine ⟨_, l, rfl, blk_set HB.out _ rfl, ?_, ?_, (gk.trans HG.out).trans (grown_setC _ _ _ _)⟩
      · have hd := HD.out.set HB.out (by decide) (by decide) (o := 4) (.int .i64 (fst 2 y))
        exact ⟨owns_base hd.row hsz1, fun x hx => (hd.rows x hx).base hsz1⟩
      · rw [HL.out, List.take_of_length_le (by rw [HRL.out]; exact Nat.le_refl _)]
end Go.Proofs.YtblaphkaklocfaaGreatDoor
/- Plain: the cells of the days; what ordo's transfer collects. -/
namespace Go.Proofs.YtblaphkaklocfaaGreatDoor
open Go.ChangeShapes Go.WideShapes Go.ChangeAt Go.RowKit Go.Maps
set_option maxHeartbeats 1000000
set_option maxRecDepth 20000

instance : Inhabited RV := ⟨(default, (.slice none 0 0, .slice none 0 0, .slice none 0 0))⟩
theorem info_bool2 : (Tryz.prog.info? 4).map (fun i => (i.zero, i.size, i.bytes)) = some (some (.bool false), 1, 1) := by kernel_rfl
theorem info_ints : (Tryz.prog.info? 52).map (fun i => (i.zero, i.size, i.bytes)) = some (some (.slice none 0 0), 1, 24) := by kernel_rfl
theorem flatR_at (l : List RV) (k : Nat) (h : k < l.length) : ∀ i u, (RV.vals l[k]!)[i]? = some u → (flatR l)[k * 7 + i]? = some u := by
  induction l generalizing k with
  | nil => simp at h
  | cons x s ih =>
    intro i u hu
    have hi : i < 7 := by
      have := (List.getElem?_eq_some_iff.1 hu).1
      simpa [RV.vals] using this
    have e : flatR (x :: s) = RV.vals x ++ flatR s := rfl
    rw [e]
    cases k with
    | zero =>
      rw [List.getElem?_append_left (by simp [RV.vals]; omega)]
      simpa using hu
    | succ k =>
      rw [List.getElem?_append_right (by simp [RV.vals]; omega)]
      have h2 := ih k (by simpa using h) i u (by simpa using hu)
      have e2 : (k + 1) * 7 + i - (RV.vals x).length = k * 7 + i := by simp [RV.vals]; omega
      rw [e2]
      exact h2
theorem days_at {w : World} {base n c : Nat} {o : Option Addr} {l : List RV} (h : w.ownsRow base 168 7 (.slice o n c) l.length (flatR l)) (h1 : 1 ≤ l.length) :
    ∃ g, o = some ⟨g, 0, none⟩ ∧ base ≤ g ∧ g < w.heap.size ∧ ∀ k, k < l.length → w.cell? ⟨g, k * 7, none⟩ = some (.int .i64 (l[k]!).1.p.kind) ∧ w.cell? ⟨g, k * 7 + 1, none⟩ = some (.int .i64 (l[k]!).1.p.idx) ∧ w.cell? ⟨g, k * 7 + 2, none⟩ = some (.int .i64 (l[k]!).1.p.rank) ∧
      w.cell? ⟨g, k * 7 + 3, none⟩ = some (.string (l[k]!).1.p.id) ∧ w.cell? ⟨g, k * 7 + 4, none⟩ = some (l[k]!).2.1 ∧ w.cell? ⟨g, k * 7 + 5, none⟩ = some (l[k]!).2.2.1 ∧ w.cell? ⟨g, k * 7 + 6, none⟩ = some (l[k]!).2.2.2 := by
  have hc := h
  obtain ⟨_, ⟨_, h0⟩ | ⟨g, cap, cur, e, hb, hh, _⟩⟩ := h
  · omega
  · simp only [Value.slice.injEq] at e
    obtain ⟨rfl, rfl, rfl⟩ := e
    refine ⟨g, rfl, hb, (Array.getElem?_eq_some_iff.1 hh).1, fun k hk => ?_⟩
    have q := fun i u hu => hc.cells (g := g) rfl _ _ (flatR_at l k hk i u hu)
    simp only [Addr.add_lit, Nat.zero_add] at q
    exact ⟨q 0 _ rfl, q 1 _ rfl, q 2 _ rfl, q 3 _ rfl, q 4 _ rfl, q 5 _ rfl, q 6 _ rfl⟩
theorem take_snoc {α : Type} [Inhabited α] (l : List α) (k : Nat) (h : k < l.length) : l.take (k + 1) = l.take k ++ [l[k]!] := by
  rw [List.take_add_one, List.getElem?_eq_getElem h, getElem!_pos l k h]
  rfl
end Go.Proofs.YtblaphkaklocfaaGreatDoor
/- Contract: ordo's transfer. -/
namespace Go.Proofs.YtblaphkaklocfaaGreatDoor
open Go.ChangeShapes Go.WideShapes Go.ChangeAt Go.RowKit Go.Maps
set_option maxHeartbeats 8000000
set_option maxRecDepth 20000

def frees (f : Int) (l : List RV) : List Bool := l.map (fun x => freeC f x.1)
def imps (l : List RV) : List Value := l.map (fun x => x.2.2.2)
theorem transfer_ok (f y n4 : Int) (L M : List Rec) (o o' : Option Addr) (q q' : Nat) (w : World) (P : Nat) (vd v6 v7 v8 : Value) (l : List RV) (b0 : Nat)
    (hP : Blk w P #[.int .i64 f, .slice o L.length q, .slice o' M.length q', .int .i64 y, .int .i64 n4, vd, v6, v7, v8] 102) (hD : DaySt b0 w vd l) (hl : l.length ≤ 400) (h1 : 1 ≤ l.length)
    (hm : ∀ i, i < l.length → (l[i]!).1.imp.length ≤ 1000) :
    Calls Tryz.prog 54 #[.pointer (some ⟨P, 0, none⟩)] w fun e w' => ∃ vm, Blk w' P #[.int .i64 f, .slice o L.length q, .slice o' M.length q', .int .i64 y, .int .i64 n4, vd, vm, v7, v8] 102 ∧ w.grownBy w' (some P) ∧
      ((∃ T, assignC (frees f l) 0 (l.map (fun x => x.1.imp)) [] = some T ∧ e = .returned (.int .i64 0) ∧ w'.ownsRow w.heap.size 219 3 vm T.length (flatM T)) ∨
        assignC (frees f l) 0 (l.map (fun x => x.1.imp)) [] = none ∧ e = .returned (.int .i64 5)) := by
  obtain ⟨iB, hiB, hzB0, hzB1, hzB2⟩ := info_parts info_bool2
  obtain ⟨iI, hiI, hzI0, hzI1, hzI2⟩ := info_parts info_ints
  obtain ⟨od, cd, rfl⟩ := owns_form hD.row
  obtain ⟨gd, rfl, hbd, hgd, hcd⟩ := days_at hD.row h1
  have c0 : w.cell? ⟨P, 0, none⟩ = some (.int .i64 f) := by rw [hP.cell]; rfl
  have c1 : w.cell? ⟨P, 1, none⟩ = some (.slice o L.length q) := by rw [hP.cell]; rfl
  have c2 : w.cell? ⟨P, 2, none⟩ = some (.slice o' M.length q') := by rw [hP.cell]; rfl
  have c5 : w.cell? ⟨P, 5, none⟩ = some (.slice (some ⟨gd, 0, none⟩) l.length cd) := by rw [hP.cell]; rfl
  have hlP := hP.lt
  have HP := Lib.hid hP
  have HD := Lib.hid hD
  have HCD := Lib.hid hcd
  have HM := Lib.hid hm
  have HT1 := Lib.hid (fun k (h : k < l.length) => take_snoc l k h)
  clear hP hD hcd hm
  go_enter Tryz.func54, Tryz.ntmps54
  go_wp2_with fail
  go_loopw [3, 4, 12] (fun vf vi i wr => ∃ k : Nat, k ≤ l.length ∧ i = .int .i64 k ∧ Hid (wr.ownsRow w.heap.size 4 1 vf k ((frees f (l.take k)).map Value.bool)) ∧ Hid (wr.ownsRow w.heap.size 52 1 vi k (imps (l.take k))) ∧ Kept w wr) (fun _ _ i _ => (l.length - intOf i).toNat)
  case atStart => exact ⟨0, by omega, rfl, Lib.hid (World.ownsRow_nil _ _ _ _), Lib.hid (World.ownsRow_nil _ _ _ _), (by repeat (first | with_reducible exact Kept.refl _ | with_reducible assumption | with_reducible refine Kept.drew ?_ | with_reducible refine Kept.drewN ?_ _ | with_reducible refine Kept.alloc ?_ _ | (with_reducible refine Kept.setCell ?_ (by first | exact Nat.le_refl _ | omega | (simp; done) | (simp; omega)) _) | (with_reducible refine Kept.trans ?_ (by with_reducible assumption))))⟩
  case round =>
    obtain ⟨k, hk, rfl, HF, HI, hkr⟩ := hrel
    obtain ⟨oF, cF, rfl⟩ := owns_form HF.out
    obtain ⟨oI, cI, rfl⟩ := owns_form HI.out
    by_cases hlt : k < l.length
    · obtain ⟨d0, d1, d2, d3, d4, d5, d6⟩ := HCD.out k hlt
      have hrows := HD.out.rows l[k]! (by rw [getElem!_pos l k hlt]; exact List.getElem_mem hlt)
      have HT2 := Lib.hid (HT1.out k hlt)
      generalize l[k]! = x at *
      obtain ⟨⟨⟨pk, pi, pr, ps⟩, com, omi, imp⟩, u1, u2, u3⟩ := x
      dsimp only at d0 d1 d2 d3 d4 d5 d6
      obtain ⟨x1, y1, e1⟩ := owns_form hrows.r1
      obtain ⟨x2, y2, e2⟩ := owns_form hrows.r2
      obtain ⟨x3, y3, e3⟩ := owns_form hrows.r3
      dsimp only at e1 e2 e3
      subst e1 e2 e3
      have a0 := (hkr.cell _ _ hgd).trans d0
      have a1 := (hkr.cell _ _ hgd).trans d1
      have a2 := (hkr.cell _ _ hgd).trans d2
      have a3 := (hkr.cell _ _ hgd).trans d3
      have a4 := (hkr.cell _ _ hgd).trans d4
      have a5 := (hkr.cell _ _ hgd).trans d5
      have a6 := (hkr.cell _ _ hgd).trans d6
      have p0 := (hkr.cell _ _ hlP).trans c0
      have p1 := (hkr.cell _ _ hlP).trans c1
      have p2 := (hkr.cell _ _ hlP).trans c2
      have hkz : (k : Int) < (l.length : Int) := by omega
      have hkz0 : (0 : Int) ≤ (k : Int) := by omega
      clear d0 d1 d2 d3 d4 d5 d6 hrows
      have KF := Lib.hid (fun W' => Free_ok f (.slice o L.length q) (.slice o' M.length q') ⟨pk, pi, pr, ps⟩ (.slice x1 com.length y1) (.slice x2 omi.length y2) (.slice x3 imp.length y3) W' rfl rfl rfl rfl rfl)
      dsimp only [resV] at KF
      have hfr : freeC f ⟨⟨pk, pi, pr, ps⟩, com, omi, imp⟩ = decide (f < pr) := rfl
      have hszr := hkr.size
      have hlPr : P < wr.heap.size := by omega
      generalize decide (f < pr) = bv at *
      have HFr : Hid ((frees f (l.take (k + 1))).map Value.bool = (frees f (l.take k)).map Value.bool ++ [.bool bv]) := (show _ = _ from by rw [HT2.out]; simp [frees, hfr])
      have HIm : Hid (imps (l.take (k + 1)) = imps (l.take k) ++ [.slice x3 imp.length y3]) := (show _ = _ from by rw [HT2.out]; simp [imps])
      clear hfr
      go_wp2_with fail
      go_region_law (first
        | (refine step_append_lies _ (by rfl) _ _ _ (by rfl) w.heap.size 4 iB _ 1 1 Tryz.underlying123 hiB hzB0 hzB1 hzB2 rfl (by omega) (.slice oF k cF) k ((frees f (l.take k)).map Value.bool) (by rfl) (hF2.out.alloc _) ⟨W2.heap.size, 0, none⟩ 1 1 [.bool bv] (by rfl) (by rfl) (World.news_of_block hna) (by simp [Value.oneCell']) (by omega) (by unfold maxLen; omega) (by omega) (by simp; omega) (W2.heap.size + 1) (by simp) ?_; intro gg cap v1 hown1 hgrow hat hlt1; have hX3 := (bX.out.alloc (.cells #[.bool bv] 4)).grown hgrow (fun e => owns_not_blk hF2.out bX.out (by decide) e.symm); have z6 : v1.cell? ⟨wr.heap.size, 6, none⟩ = some (.slice x3 imp.length y3) := (by rw [hX3.cell]; rfl); have hI3 := Lib.hid (owns_grown (hI2.out.alloc (.cells #[.bool bv] 4)) hgrow (owns_apart2 hI2.out hF2.out (by decide))); have HO3 := Lib.hid hown1; have HG3 := Lib.hid hgrow; have hl3 := hX3.lt; clear hown1 hgrow hX3)
        | (go_simp; go_at_call 106; (with_reducible refine (KF.out _).mono ?_); rintro e W2 ⟨rfl, hk2⟩; have kk2 : Kept (wr.alloc (.cells #[.int .i64 pk, .int .i64 pi, .int .i64 pr, .string ps, .slice x1 com.length y1, .slice x2 omi.length y2, .slice x3 imp.length y3] 168)) W2 := Kept.trans (by (repeat (first | with_reducible assumption | with_reducible exact Kept.refl _ | with_reducible apply Kept.drew))) hk2; have bX := Lib.hid ((Blk.new wr _ _).kept kk2); have hF2 := Lib.hid (owns_kept (HF.out.alloc (.cells #[.int .i64 pk, .int .i64 pi, .int .i64 pr, .string ps, .slice x1 com.length y1, .slice x2 omi.length y2, .slice x3 imp.length y3] 168)) kk2); have hI2 := Lib.hid (owns_kept (HI.out.alloc (.cells #[.int .i64 pk, .int .i64 pi, .int .i64 pr, .string ps, .slice x1 com.length y1, .slice x2 omi.length y2, .slice x3 imp.length y3] 168)) kk2); have hs2 := kk2.size; have hna := Blk.new W2 #[.bool bv] 4; have kw2 := Lib.hid ((hkr.alloc (.cells #[.int .i64 pk, .int .i64 pi, .int .i64 pr, .string ps, .slice x1 com.length y1, .slice x2 omi.length y2, .slice x3 imp.length y3] 168)).trans kk2); simp only [World.size_alloc] at hs2))
      all_goals have hs3 := HG3.out.size
      all_goals simp only [World.size_alloc] at hs3
      all_goals (
        go_wp2_with (first | (at_builtin; refine wpList_append_own _ rfl _ _ 124 rfl w.heap.size 52 iI (.slice none 0 0) 1 24 Tryz.underlying124 hiI hzI0 hzI1 hzI2 rfl (by decide) _ _ _ rfl (hI3.out.alloc _) ⟨v1.heap.size, 0, none⟩ 1 1 [.slice x3 imp.length y3] rfl rfl (cell_one_new _ _ _) (by simp [Value.oneCell']) (by unfold maxLen; omega) (by omega) (by simp; omega) ?_; intro v8 w8 hown8 hgrow8 _) | fail)
        have kw8 : Kept w w8 := Below.grown ((Below.grown (kw2.out.alloc _) HG3.out (by simp; omega) (fun q e => (hF2.out.lt q e).1)).alloc (by omega) _) hgrow8 (by simp; omega) (fun q e => (hI3.out.lt q e).1)
        exact ⟨⟨k + 1, by omega, by go_num, Lib.hid (by rw [HFr.out]; exact owns_grown (HO3.out.alloc _) hgrow8 (owns_apart2 HO3.out hI3.out (by decide))), Lib.hid (by rw [HIm.out]; exact hown8), kw8⟩, by simp [intOf]; omega⟩)
    · obtain rfl : k = l.length := by omega
      have hTl : l.take l.length = l := List.take_length
      have hIl : (l.map (fun x => x.1.imp)).length = l.length := by simp
      have hF1 := HF.out
      have hI1 := HI.out
      rw [hTl] at hF1 hI1
      have KA := Lib.hid (Assign_ok (frees f l) (l.map (fun x => x.1.imp)) w.heap.size w.heap.size b0 _ _ (imps l) wr (by rw [hIl]; exact hF1) (by simp [frees]) (by rw [hIl]; exact hI1) (fun i hi => by
        have hi2 : i < l.length := by simpa using hi
        have hr := owns_kept (HD.out.rows l[i]! (by rw [getElem!_pos l i hi2]; exact List.getElem_mem hi2)).r3 hkr
        rw [getElem!_pos (l.map (fun x => x.1.imp)) i (by simpa using hi2), getElem!_pos (imps l) i (by simpa [imps] using hi2)]
        simp only [imps, List.getElem_map]
        rw [getElem!_pos l i hi2] at hr
        exact hr) (by rw [hIl]; omega) (fun i hi => by
        have hi2 : i < l.length := by simpa using hi
        have := HM.out i hi2
        rw [getElem!_pos l i hi2] at this
        rw [getElem!_pos (l.map (fun x => x.1.imp)) i (by simpa using hi2)]
        simpa using this))
      have bP := HP.out.kept hkr
      have hlPr := bP.lt
      have HB := Lib.hid bP
      have hszr := hkr.size
      clear hF1 hI1 bP hTl hIl
      go_wp2_with fail
      go_at_call 107
      (with_reducible refine KA.out.mono ?_)
      rintro e w5 ⟨T, v, ⟨hT, rfl, hrow, hk5⟩ | ⟨hT, rfl, hk5⟩⟩
      · obtain ⟨x5, y5, rfl⟩ := owns_form hrow
        have b5 := HB.out.kept hk5
        have z6 : w5.cell? ⟨P, 6, none⟩ = some v6 := by rw [b5.cell]; rfl
        have f6 := b5.free 6
        have l5 := b5.lt
        have HB5 := Lib.hid b5
        have kw := Lib.hid (hkr.trans hk5)
        have HR5 := Lib.hid hrow
        have HT5 := Lib.hid hT
        clear b5 hrow hT
        go_wp2
        go_ret
        refine ⟨_, blk_set HB5.out _ rfl, ?_, .inl ⟨T, HT5.out, rfl, owns_base (own_set HR5.out HB5.out (by decide) _) hszr⟩⟩
        exact (show w.grownBy w5 (some P) from ⟨kw.out.os, kw.out.tape, kw.out.output, kw.out.size, fun k hk _ => kw.out.block k hk⟩).trans (grown_setC _ _ _ _)
      · have b5 := HB.out.kept hk5
        have z6 : w5.cell? ⟨P, 6, none⟩ = some v6 := by rw [b5.cell]; rfl
        have f6 := b5.free 6
        have l5 := b5.lt
        have HB5 := Lib.hid b5
        have kw := Lib.hid (hkr.trans hk5)
        have HT5 := Lib.hid hT
        clear b5 hT
        go_wp2
        go_ret
        refine ⟨_, blk_set HB5.out _ rfl, ?_, .inr ⟨HT5.out, rfl⟩⟩
        exact (show w.grownBy w5 (some P) from ⟨kw.out.os, kw.out.tape, kw.out.output, kw.out.size, fun k hk _ => kw.out.block k hk⟩).trans (grown_setC _ _ _ _)
end Go.Proofs.YtblaphkaklocfaaGreatDoor
/- Plain: the date of the r-th day of a year. -/
namespace Go.Proofs.YtblaphkaklocfaaGreatDoor
open Go.ChangeShapes Go.WideShapes Go.ChangeAt Go.RowKit Go.Maps
set_option maxHeartbeats 1000000
set_option maxRecDepth 20000

theorem month_all : ∀ b : Bool, ∀ r : Fin 366, (b = true ∨ r.val < 365) → (1 ≤ monthIn b (r.val : Int) 12 1 ∧ monthIn b (r.val : Int) 12 1 ≤ 12 ∧ cum b (monthIn b (r.val : Int) 12 1) ≤ (r.val : Int) ∧ (r.val : Int) < cum b (monthIn b (r.val : Int) 12 1 + 1)) := by decide +kernel
theorem dateIn_ok (y : Int) (r : Nat) (h1 : 1 ≤ y) (h2 : y ≤ 1000000000) (hr : r < yearLen y) : OkD 2 y (dateIn y r).m (dateIn y r).d ∧ num 2 y (dateIn y r).m (dateIn y r).d = fst 2 y + (r : Int) ∧ (dateIn y r).y = y := by
  have hr2 : r < 366 := by unfold yearLen at hr; split at hr <;> omega
  have hb : lp 2 y = true ∨ r < 365 := by
    unfold yearLen at hr
    split at hr
    · exact .inl (by assumption)
    · exact .inr hr
  obtain ⟨a1, a2, a3, a4⟩ := month_all (lp 2 y) ⟨r, hr2⟩ hb
  dsimp only at a1 a2 a3 a4
  have e := cum_succ (lp 2 y) (monthIn (lp 2 y) (r : Int) 12 1) a1 a2
  refine ⟨⟨h1, h2, a1, a2, ?_, ?_⟩, ?_, rfl⟩
  · show 1 ≤ (r : Int) - cum (lp 2 y) (monthIn (lp 2 y) (r : Int) 12 1) + 1
    omega
  · show (r : Int) - cum (lp 2 y) (monthIn (lp 2 y) (r : Int) 12 1) + 1 ≤ mlen (lp 2 y) (monthIn (lp 2 y) (r : Int) 12 1)
    omega
  · show fst 2 y + cum (lp 2 y) (monthIn (lp 2 y) (r : Int) 12 1) + ((r : Int) - cum (lp 2 y) (monthIn (lp 2 y) (r : Int) 12 1) + 1) - 1 = fst 2 y + (r : Int)
    omega
end Go.Proofs.YtblaphkaklocfaaGreatDoor

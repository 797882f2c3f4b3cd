/- Contracts and plain lemmas: En0, Ent. -/
import Derived.Test.YtblaphkaklocfaaGreatDoorG22
import Derived.Deep.RegionHeld3
import Derived.Deep.RegionLaw
import Derived.Deep.DeepCutAuto
import Derived.Outline
import Derived.StillTailTactics
set_option linter.unusedSimpArgs false
set_option linter.unusedVariables false
set_option linter.unusedSectionVars false
/- Plain: entries as values; what a day's result must be for its entry. -/
namespace Go.Proofs.YtblaphkaklocfaaGreatDoor
open Go.ChangeShapes Go.WideShapes Go.ChangeAt Go.RowKit Go.Maps
set_option maxHeartbeats 1000000
set_option maxRecDepth 20000

/-- An entry with the values of its two lists. -/
def entV (e : Ent) (u1 u2 : Value) : Value := .agg #[.int .i64 e.date.y, .int .i64 e.date.m, .int .i64 e.date.d, .int .i64 e.wd, .string e.sea, .int .i64 e.week, .int .i64 e.kind, .string e.pri, .int .i64 e.rank, .int .i64 e.src.y, .int .i64 e.src.m, .int .i64 e.src.d, u1, u2]
structure ResOK (M : List Rec) (r : Res) : Prop where
  pidx : r.p.kind = 2 → r.p.idx < M.length
  lcom : r.com.length ≤ 1000
  lomi : r.omi.length ≤ 1000
  limp : r.imp.length ≤ 1000
  mcom : ∀ i ∈ r.com, i < M.length
  momi : ∀ i ∈ r.omi, i < M.length
def TOK (M : List Rec) (y : Int) (T : List Mov) : Prop := ∀ m ∈ T, m.feast < M.length ∧ m.src < yearLen y
theorem disp_ok {M : List Rec} {r : Res} (h : ResOK M r) : ((displaceC M r).com.length ≤ 2000 ∧ (displaceC M r).omi.length ≤ 2000) ∧ (∀ i ∈ (displaceC M r).com, i < M.length) ∧ ∀ i ∈ (displaceC M r).omi, i < M.length := by
  have h1 := h.lcom
  have h2 := h.lomi
  unfold displaceC
  split
  · rename_i hk
    split
    · refine ⟨⟨by dsimp only; omega, by simp; omega⟩, h.mcom, fun i hi => ?_⟩
      rcases List.mem_cons.1 hi with e | e
      · rw [e]; exact h.pidx hk
      · exact h.momi i e
    · refine ⟨⟨by simp; omega, by dsimp only; omega⟩, fun i hi => ?_, h.momi⟩
      rcases List.mem_cons.1 hi with e | e
      · rw [e]; exact h.pidx hk
      · exact h.mcom i e
  · exact ⟨⟨by dsimp only; omega, by dsimp only; omega⟩, h.mcom, h.momi⟩
theorem taken_mem {T : List Mov} {i : Nat} {m : Mov} (h : takenC T i = some m) : m ∈ T := List.mem_of_find?_eq_some h
theorem entC_none (L M : List Rec) (y first : Int) (T : List Mov) (i : Nat) (r : Res) (h : takenC T i = none) : entC L M y first T i r =
    ⟨⟨y, (dateIn y i).m, (dateIn y i).d⟩, (first + (i : Int)) % 7, (L[(seaAt (daysOf y L) first (first + (i : Int))).2]!).s, weekC (daysOf y L) first (first + (i : Int)), r.p.kind, r.p.id, r.p.rank, ⟨0, 0, 0⟩, idsC M r.com, idsC M r.omi⟩ := by
  unfold entC
  rw [h]
  rfl
theorem entC_some (L M : List Rec) (y first : Int) (T : List Mov) (i : Nat) (r : Res) (m : Mov) (h : takenC T i = some m) : entC L M y first T i r =
    ⟨⟨y, (dateIn y i).m, (dateIn y i).d⟩, (first + (i : Int)) % 7, (L[(seaAt (daysOf y L) first (first + (i : Int))).2]!).s, weekC (daysOf y L) first (first + (i : Int)), 3, (M[m.feast]!).s, (M[m.feast]!).a, ⟨y, (dateIn y m.src).m, (dateIn y m.src).d⟩, idsC M (displaceC M r).com, idsC M (displaceC M r).omi⟩ := by
  unfold entC
  rw [h]
  rfl
theorem Kept.setRow {a b : World} (h : Kept a b) {g : Nat} (hg : a.heap.size ≤ g) (cs : Array Value) : Kept a (b.setRow g cs) :=
  ⟨h.os, h.tape, h.output, by rw [setRow_size]; exact h.size, fun k hk => (setRow_other b g k cs (by omega)).trans (h.block k hk)⟩
theorem Blk.setRow {w : World} {b : Nat} {cs : Array Value} {t : TypeId} (h : Blk w b cs t) (cs' : Array Value) : Blk (w.setRow b cs') b cs' t := setRow_heap w b _ _ _ _ h
theorem Blk.setRow_other {w : World} {b R : Nat} {cs : Array Value} {t : TypeId} (h : Blk w b cs t) (hne : b ≠ R) (cs' : Array Value) : Blk (w.setRow R cs') b cs t := (Go.setRow_other w R b cs' hne).trans h
theorem own_setRow {w : World} {b n s R : Nat} {e t : TypeId} {v : Value} {xs : List Value} {cs : Array Value} (h : w.ownsRow b e s v n xs) (hk : Blk w R cs t) (hne : t ≠ e) (cs' : Array Value) : (w.setRow R cs').ownsRow b e s v n xs :=
  owns_grown (row := some R) h ⟨rfl, rfl, rfl, by rw [setRow_size]; exact Nat.le_refl _, fun k _ hk => Go.setRow_other w R k cs' (fun e => hk (by rw [e]))⟩ (.inr (owns_not_blk h hk hne))
theorem info_ent : (Tryz.prog.info? 56).map (·.size) = some 14 := by kernel_rfl
theorem Blk.set7o {w : World} {b R : Nat} {cs : Array Value} {t : TypeId} (h : Blk w b cs t) (hne : b ≠ R) (x0 x1 x2 x3 x4 x5 x6 : Value) :
    Blk (((((((w.setCell ⟨R, 0, none⟩ x0).setCell ⟨R, 1, none⟩ x1).setCell ⟨R, 2, none⟩ x2).setCell ⟨R, 3, none⟩ x3).setCell ⟨R, 4, none⟩ x4).setCell ⟨R, 5, none⟩ x5).setCell ⟨R, 6, none⟩ x6) b cs t :=
  ((((((h.other hne _ _).other hne _ _).other hne _ _).other hne _ _).other hne _ _).other hne _ _).other hne _ _
theorem held_of3 {W w1 : World} {p : Prop} (hb : Kept W w1) (hp : p) : Kept W w1 ∧ (∀ b o, b < W.heap.size → w1.cell? ⟨b, o, none⟩ = W.cell? ⟨b, o, none⟩) ∧ p :=
  ⟨hb, fun b o h => hb.cell b o h, hp⟩
theorem takV_parts (M : List Rec) (y : Int) (T : List Mov) (i : Nat) (hT : TOK M y T) : ∃ (a b c : Nat) (bb : Bool), takV (takenC T i) = .tuple #[.agg #[.int .i64 a, .int .i64 b, .int .i64 c], .bool bb] ∧
    ((bb = false ∧ takenC T i = none) ∨ (bb = true ∧ takenC T i = some ⟨a, b, c⟩ ∧ a < M.length ∧ b < yearLen y)) := by
  rcases h : takenC T i with _ | m
  · exact ⟨0, 0, 0, false, rfl, .inl ⟨rfl, rfl⟩⟩
  · exact ⟨m.feast, m.src, m.dst, true, rfl, .inr ⟨rfl, rfl, hT m (taken_mem h)⟩⟩
end Go.Proofs.YtblaphkaklocfaaGreatDoor
/- Contract: ordo's entry: the entry of a day. -/
namespace Go.Proofs.YtblaphkaklocfaaGreatDoor
open Go.ChangeShapes Go.WideShapes Go.ChangeAt Go.RowKit Go.Maps
set_option maxHeartbeats 8000000
set_option maxRecDepth 20000

theorem entry_ok {f y : Int} {L M : List Rec} (C : Ctx f L M y) (o o' : Option Addr) (q q' : Nat) (w0 w : World) (I : Cin w0 o o' L M) (P : Nat) (h0 : Kept w0 w) (vd vm v7 v8 : Value) (l : List RV) (T : List Mov) (b0 b1 : Nat)
    (hP : Blk w P #[.int .i64 f, .slice o L.length q, .slice o' M.length q', .int .i64 y, .int .i64 (fst 2 y), vd, vm, v7, v8] 102) (hD : DaySt b0 w vd l) (hl : l.length = yearLen y)
    (hT : w.ownsRow b1 219 3 vm T.length (flatM T)) (hTl : T.length ≤ 400000) (hTo : TOK M y T) (i : Nat) (hi : i < l.length) (hro : ResOK M (l[i]!).1) :
    Calls Tryz.prog 108 #[.pointer (some ⟨P, 0, none⟩), .int .i64 i] w fun e w' => ∃ u1 u2, e = .returned (entV (entC L M y (fst 2 y) T i (l[i]!).1) u1 u2) ∧
      w'.ownsRow w.heap.size 9 1 u1 (entC L M y (fst 2 y) T i (l[i]!).1).com.length (strV (entC L M y (fst 2 y) T i (l[i]!).1).com) ∧
      w'.ownsRow w.heap.size 9 1 u2 (entC L M y (fst 2 y) T i (l[i]!).1).omi.length (strV (entC L M y (fst 2 y) T i (l[i]!).1).omi) ∧ Kept w w' := by
  obtain ⟨od, cd, rfl⟩ := owns_form hD.row
  obtain ⟨om, cm, rfl⟩ := owns_form hT
  obtain ⟨gd, rfl, hbd, hgd, hcd⟩ := days_at hD.row (by omega)
  have c5 : w.cell? ⟨P, 5, none⟩ = some (.slice (some ⟨gd, 0, none⟩) l.length cd) := by rw [hP.cell]; rfl
  have c4 : w.cell? ⟨P, 4, none⟩ = some (.int .i64 (fst 2 y)) := by rw [hP.cell]; rfl
  obtain ⟨d0, d1, d2, d3, d4, d5, d6⟩ := hcd i hi
  have hrows := hD.rows l[i]! (by rw [getElem!_pos l i hi]; exact List.getElem_mem hi)
  have hlP := hP.lt
  generalize l[i]! = x at *
  obtain ⟨⟨⟨pk, pi, pr, ps⟩, com, omi, imp⟩, u1, u2, u3⟩ := x
  dsimp only at d0 d1 d2 d3 d4 d5 d6
  obtain ⟨x1, y1, e1⟩ := owns_form hrows.r1
  obtain ⟨x2, y2, e2⟩ := owns_form hrows.r2
  obtain ⟨x3, y3, e3⟩ := owns_form hrows.r3
  dsimp only at e1 e2 e3
  subst e1 e2 e3
  have hfb := fst_bounds 2 y (by have := C.h1; omega) (by have := C.h2; omega)
  have hil : (i : Int) < (l.length : Int) := by omega
  have hi0 : (0 : Int) ≤ (i : Int) := by omega
  have hn : yearLen y ≤ 366 := by unfold yearLen; split <;> omega
  have hw : wrap64 (fst 2 y + (i : Int)) = fst 2 y + (i : Int) := by unfold wrap64; omega
  have HP0 := Lib.hid hP
  have HC := Lib.hid C
  have HI0 := Lib.hid I
  have HIy := Lib.hid (show i < yearLen y from by omega)
  have HSI := Lib.hid (seaIdx_lt (y := y) (day := fst 2 y + (i : Int)) C)
  have HRO := Lib.hid hro
  have HRW := Lib.hid hrows
  have HTO := Lib.hid hTo
  have HT := Lib.hid hT
  have hil366 : i < 366 := by omega
  have HEN : Hid (takenC T i = none → _) := Lib.hid (entC_none L M y (fst 2 y) T i ⟨⟨pk, pi, pr, ps⟩, com, omi, imp⟩)
  have HES : Hid (∀ m, takenC T i = some m → _) := Lib.hid (entC_some L M y (fst 2 y) T i ⟨⟨pk, pi, pr, ps⟩, com, omi, imp⟩)
  rw [show (seaAt (daysOf y L) (fst 2 y) (fst 2 y + (i : Int))).2 = seaIdx L y (fst 2 y + (i : Int)) from rfl] at HEN HES
  dsimp only at HEN HES HRW HRO
  have hdt := dateIn_ok y i (by have := C.h1; omega) C.h2 (by omega)
  have KD := Lib.hid (fun w' => FromDay_ok (fst 2 y + (i : Int)) y (dateIn y i).m (dateIn y i).d w' hdt.1 hdt.2.1)
  clear hdt hro hrows hTo hT
  generalize (dateIn y i).m = dm at *
  generalize (dateIn y i).d = dd at *
  generalize entC L M y (fst 2 y) T i ⟨⟨pk, pi, pr, ps⟩, com, omi, imp⟩ = en at *
  go_enter Tryz.func108, Tryz.ntmps108
  go_wp2_with fail
  go_region
  go_wp2_with fail
  obtain ⟨W, hW⟩ : ∃ x, x = ((w.alloc (.cells #[.int .i64 0, .int .i64 0, .int .i64 0, .int .i64 0, .string ⟨#[]⟩, .int .i64 0, .int .i64 0, .string ⟨#[]⟩, .int .i64 0, .int .i64 0, .int .i64 0, .int .i64 0, .slice none 0 0, .slice none 0 0] 56)).alloc (.cells #[.int .i64 pk, .int .i64 pi, .int .i64 pr, .string ps, .slice x1 com.length y1, .slice x2 omi.length y2, .slice x3 imp.length y3] 168)).drew := ⟨_, rfl⟩
  rw [← hW]
  have hkW : Kept w W := by rw [hW]; exact Kept.drew (((Kept.refl w).alloc _).alloc _)
  have bE : Blk W w.heap.size #[.int .i64 0, .int .i64 0, .int .i64 0, .int .i64 0, .string ⟨#[]⟩, .int .i64 0, .int .i64 0, .string ⟨#[]⟩, .int .i64 0, .int .i64 0, .int .i64 0, .int .i64 0, .slice none 0 0, .slice none 0 0] 56 := by rw [hW]; exact (((Blk.new w _ _).alloc _)).drew
  have bR : Blk W (w.heap.size + 1) #[.int .i64 pk, .int .i64 pi, .int .i64 pr, .string ps, .slice x1 com.length y1, .slice x2 omi.length y2, .slice x3 imp.length y3] 168 := by rw [hW]; have := (Blk.new (w.alloc (.cells #[.int .i64 0, .int .i64 0, .int .i64 0, .int .i64 0, .string ⟨#[]⟩, .int .i64 0, .int .i64 0, .string ⟨#[]⟩, .int .i64 0, .int .i64 0, .int .i64 0, .int .i64 0, .slice none 0 0, .slice none 0 0] 56)) #[.int .i64 pk, .int .i64 pi, .int .i64 pr, .string ps, .slice x1 com.length y1, .slice x2 omi.length y2, .slice x3 imp.length y3] 168).drew; simpa using this
  have hzW : Hid (W.heap.size = w.heap.size + 2) := (show _ = _ from by rw [hW]; simp)
  clear hW
  have HE := Lib.hid bE
  have HR0 := Lib.hid bR
  have r0 : W.cell? ⟨w.heap.size + 1, 0, none⟩ = some (.int .i64 pk) := by rw [bR.cell]; rfl
  have r2 : W.cell? ⟨w.heap.size + 1, 2, none⟩ = some (.int .i64 pr) := by rw [bR.cell]; rfl
  have r3 : W.cell? ⟨w.heap.size + 1, 3, none⟩ = some (.string ps) := by rw [bR.cell]; rfl
  have hlR := bR.lt
  have KW := Lib.hid (fun w' => WOf_any (fst 2 y + (i : Int)) w' (by omega) (by omega))
  clear bE bR
  go_cut [7] (fun s7 wx => s7 = .pointer (some ⟨W.heap.size, 0, none⟩) ∧ Hid (Blk wx W.heap.size #[.int .i64 0, .int .i64 0, .int .i64 0, .int .i64 ((fst 2 y + (i : Int)) % 7), .string ⟨#[]⟩, .int .i64 0, .int .i64 pk, .string ps, .int .i64 pr, .int .i64 0, .int .i64 0, .int .i64 0, .slice none 0 0, .slice none 0 0] 56) ∧ Kept W wx)
  case first =>
    go_region_held3 (fun w' => Kept W w' ∧ (∀ b o, b < W.heap.size → w'.cell? ⟨b, o, none⟩ = W.cell? ⟨b, o, none⟩)) (exact held_of (by (repeat (first | with_reducible assumption | with_reducible exact Kept.refl _ | with_reducible apply Kept.drew | with_reducible apply Kept.alloc | (with_reducible refine Kept.setCell ?_ (by first | exact Nat.le_refl _ | (dsimp only; omega)) _))))) (first | (go_at_call 143; (with_reducible refine (KW.out _).mono ?_); rintro e w1 ⟨rfl, rfl⟩))
    all_goals (go_wp2_with fail; go_meet)
    all_goals (first | exact ⟨rfl, Lib.hid (Blk.new W _ _), (Kept.refl W).alloc _⟩ | exact ⟨rfl, Lib.hid ((Blk.new W _ _).drew.drew), ((Kept.refl W).alloc _).drew.drew⟩)
  case rest =>
    as_aux_lemma =>
    obtain ⟨rfl, hb, hk2⟩ := hcut
    clear r0 r2 r3 c4 c5 d0 d1 d2 d3 d4 d5 d6 hlR
    go_wp2_with fail
    go_at_call 149
    (with_reducible refine (KD.out _).mono ?_)
    rintro e w3 ⟨rfl, hk3⟩
    have bE3 := hb.out.kept hk3
    have hk03 := Lib.hid (Kept.trans hk2 hk3)
    have g0 : w3.cell? ⟨W.heap.size, 0, none⟩ = some (.int .i64 0) := by rw [bE3.cell]; rfl
    have g1 : w3.cell? ⟨W.heap.size, 1, none⟩ = some (.int .i64 0) := by rw [bE3.cell]; rfl
    have g2 : w3.cell? ⟨W.heap.size, 2, none⟩ = some (.int .i64 0) := by rw [bE3.cell]; rfl
    have f0 := bE3.free 0
    have f1 := bE3.free 1
    have f2 := bE3.free 2
    have HB3 := Lib.hid bE3
    have hl3 := bE3.lt
    clear bE3 hb hk2 hk3
    go_wp2_with fail
    obtain ⟨W4, hW4⟩ : ∃ x, x = ((w3.setCell ⟨W.heap.size, 0, none⟩ (.int .i64 y)).setCell ⟨W.heap.size, 1, none⟩ (.int .i64 dm)).setCell ⟨W.heap.size, 2, none⟩ (.int .i64 dd) := ⟨_, rfl⟩
    rw [← hW4]
    have k4 : Kept W W4 := by rw [hW4]; exact Kept.setCell (Kept.setCell (Kept.setCell hk03.out (Nat.le_refl _) _) (Nat.le_refl _) _) (Nat.le_refl _) _
    have b4 : Hid (Blk W4 W.heap.size #[.int .i64 y, .int .i64 dm, .int .i64 dd, .int .i64 ((fst 2 y + (i : Int)) % 7), .string ⟨#[]⟩, .int .i64 0, .int .i64 pk, .string ps, .int .i64 pr, .int .i64 0, .int .i64 0, .int .i64 0, .slice none 0 0, .slice none 0 0] 56) := (show Blk _ _ _ _ from by rw [hW4]; exact blk_set (blk_set (blk_set HB3.out _ rfl) _ rfl) _ rfl)
    have bP4 := HP0.out.kept (hkW.trans k4)
    have p0 : W4.cell? ⟨P, 0, none⟩ = some (.int .i64 f) := by rw [bP4.cell]; rfl
    have p1 : W4.cell? ⟨P, 1, none⟩ = some (.slice o L.length q) := by rw [bP4.cell]; rfl
    have p2 : W4.cell? ⟨P, 2, none⟩ = some (.slice o' M.length q') := by rw [bP4.cell]; rfl
    have p3 : W4.cell? ⟨P, 3, none⟩ = some (.int .i64 y) := by rw [bP4.cell]; rfl
    have lP4 := bP4.lt
    have KSo := Lib.hid (fun w' (k : Kept W4 w') => SOf_ok HC.out o o' q q' w' (HI0.out.kept (((h0.trans hkW).trans k4).trans k)) (inY_of y i HIy.out))
    unfold catV at KSo
    have HB4 := Lib.hid bP4
    clear hW4 HB3 bP4 g0 g1 g2 f0 f1 f2
    go_region_held3 (fun w' => Kept W4 w' ∧ (∀ b o, b < W4.heap.size → w'.cell? ⟨b, o, none⟩ = W4.cell? ⟨b, o, none⟩)) (exact held_of (by (repeat (first | with_reducible assumption | with_reducible exact Kept.refl _ | with_reducible apply Kept.drew | with_reducible apply Kept.alloc | (with_reducible refine Kept.setCell ?_ (by first | exact Nat.le_refl _ | (dsimp only; omega)) _))))) (first | (go_at_call 159; (with_reducible refine (KSo.out _ ?_).mono ?_); (· (repeat (first | with_reducible assumption | with_reducible exact Kept.refl _ | with_reducible apply Kept.drew | with_reducible apply Kept.alloc | (with_reducible refine Kept.setCell ?_ (by first | exact Nat.le_refl _ | (dsimp only; omega)) _)))); rintro e w5 ⟨rfl, hk5⟩; have kk5 : Kept W4 w5 := Kept.trans (by (repeat (first | with_reducible assumption | with_reducible exact Kept.refl _ | with_reducible apply Kept.drew | with_reducible apply Kept.alloc | (with_reducible refine Kept.setCell ?_ (by first | exact Nat.le_refl _ | (dsimp only; omega)) _)))) hk5))
    have bP5 := HB4.out.kept kk5
    have z1 : w5.cell? ⟨P, 1, none⟩ = some (.slice o L.length q) := by rw [bP5.cell]; rfl
    have l5 := bP5.lt
    have hix := HSI.out
    have hixz : ((seaIdx L y (fst 2 y + (i : Int)) : Nat) : Int) < (L.length : Int) := by omega
    obtain ⟨bs, os, eo, s0, -⟩ := (HI0.out.kept (((h0.trans hkW).trans k4).trans kk5)).hL.cells _ hix
    subst eo
    generalize (L[seaIdx L y (fst 2 y + (i : Int))]!).s = ss at *
    have b5 := b4.out.kept kk5
    have e4 : w5.cell? ⟨W.heap.size, 4, none⟩ = some (.string ⟨#[]⟩) := by rw [b5.cell]; rfl
    have f4 := b5.free 4
    have le5 := b5.lt
    have HB5 := Lib.hid b5
    clear bP5 b5
    go_wp2_with fail
    obtain ⟨W6, hW6⟩ : ∃ x, x = w5.setCell ⟨W.heap.size, 4, none⟩ (.string ss) := ⟨_, rfl⟩
    rw [← hW6]
    have k6 : Kept W W6 := by rw [hW6]; exact Kept.setCell (k4.trans kk5) (Nat.le_refl _) _
    have b6 : Hid (Blk W6 W.heap.size #[.int .i64 y, .int .i64 dm, .int .i64 dd, .int .i64 ((fst 2 y + (i : Int)) % 7), .string ss, .int .i64 0, .int .i64 pk, .string ps, .int .i64 pr, .int .i64 0, .int .i64 0, .int .i64 0, .slice none 0 0, .slice none 0 0] 56) := (show Blk _ _ _ _ from by rw [hW6]; exact blk_set HB5.out _ rfl)
    have bPW := HP0.out.kept hkW
    clear hW6 HB4 HB5 e4 f4 z1 s0 p0 p1 p2 p3 lP4 l5 le5
    have p0 : W.cell? ⟨P, 0, none⟩ = some (.int .i64 f) := by rw [bPW.cell]; rfl
    have p1 : W.cell? ⟨P, 1, none⟩ = some (.slice (some ⟨bs, os, none⟩) L.length q) := by rw [bPW.cell]; rfl
    have p2 : W.cell? ⟨P, 2, none⟩ = some (.slice o' M.length q') := by rw [bPW.cell]; rfl
    have p3 : W.cell? ⟨P, 3, none⟩ = some (.int .i64 y) := by rw [bPW.cell]; rfl
    have lPW := bPW.lt
    have KWk := Lib.hid (fun w' (k : Kept W w') => SWeek_ok HC.out (some ⟨bs, os, none⟩) o' q q' w' (HI0.out.kept ((h0.trans hkW).trans k)) (inY_of y i HIy.out))
    unfold catV at KWk
    generalize weekC (daysOf y L) (fst 2 y) (fst 2 y + (i : Int)) = wk at *
    have HPW := Lib.hid bPW
    clear bPW k4 kk5 b4 KSo
    go_cut [] (fun wx => Hid (Blk wx W.heap.size #[.int .i64 y, .int .i64 dm, .int .i64 dd, .int .i64 ((fst 2 y + (i : Int)) % 7), .string ss, .int .i64 wk, .int .i64 pk, .string ps, .int .i64 pr, .int .i64 0, .int .i64 0, .int .i64 0, .slice none 0 0, .slice none 0 0] 56) ∧ Hid (Blk wx (w.heap.size + 1) #[.int .i64 pk, .int .i64 pi, .int .i64 pr, .string ps, .slice x1 com.length y1, .slice x2 omi.length y2, .slice x3 imp.length y3] 168) ∧ Kept W wx)
    case first =>
      go_region_held3 (fun w' => Kept W w' ∧ (∀ b o, b < W.heap.size → w'.cell? ⟨b, o, none⟩ = W.cell? ⟨b, o, none⟩)) (exact held_of (by (repeat (first | with_reducible assumption | with_reducible exact Kept.refl _ | with_reducible apply Kept.drew | with_reducible apply Kept.alloc | (with_reducible refine Kept.setCell ?_ (by first | exact Nat.le_refl _ | (dsimp only; omega)) _))))) (first | (go_at_call 160; (with_reducible refine (KWk.out _ ?_).mono ?_); (· (repeat (first | with_reducible assumption | with_reducible exact Kept.refl _ | with_reducible apply Kept.drew | with_reducible apply Kept.alloc | (with_reducible refine Kept.setCell ?_ (by first | exact Nat.le_refl _ | (dsimp only; omega)) _)))); rintro e w7 ⟨rfl, hk7⟩; have kk7 : Kept W6 w7 := Kept.trans (by (repeat (first | with_reducible assumption | with_reducible exact Kept.refl _ | with_reducible apply Kept.drew | with_reducible apply Kept.alloc | (with_reducible refine Kept.setCell ?_ (by first | exact Nat.le_refl _ | (dsimp only; omega)) _)))) hk7; have kw7 : Kept W w7 := Kept.trans k6 kk7; have b7 := b6.out.kept kk7; have e5 : w7.cell? ⟨W.heap.size, 5, none⟩ = some (.int .i64 0) := (by rw [b7.cell]; rfl); have f5 := b7.free 5; have l7 := b7.lt))
      all_goals (go_wp2_with fail; go_meet)
      all_goals exact ⟨Lib.hid (blk_set b7 _ rfl), Lib.hid ((HR0.out.kept kw7).other (by have := hzW.out; omega) _ _), Kept.setCell kw7 (Nat.le_refl _) _⟩
    case rest =>
      as_aux_lemma =>
      obtain ⟨HB8, HR8, k8⟩ := hcut
      clear b6 KWk p0 p1 p2 p3 lPW k6
      have bP8 := HPW.out.kept k8
      have p6 : wc.cell? ⟨P, 6, none⟩ = some (.slice om T.length cm) := by rw [bP8.cell]; rfl
      have lP8 := bP8.lt
      have KT := Lib.hid (fun w' (k : Kept W w') => Taken_ok T i b1 _ w' (owns_kept HT.out (hkW.trans k)) (by omega) (by omega))
      obtain ⟨ma, mb, mc, bb, hV, hcase⟩ := takV_parts M y T i HTO.out
      rw [hV] at KT
      have HCA := Lib.hid hcase
      clear bP8 hV hcase
      go_wp2_with fail
      go_at_call 161
      (with_reducible refine (KT.out _ k8).mono ?_)
      rintro e w9 ⟨rfl, hk9⟩
      have k9 : Kept W w9 := k8.trans hk9
      have HB9 := Lib.hid (HB8.out.kept hk9)
      have HR9 := Lib.hid (HR8.out.kept hk9)
      clear HB8 HR8 p6 lP8 KT hk9 k8
      go_upto_if 90 with fail
      obtain ⟨W10, hW10⟩ : ∃ x, x = w9.alloc (.cells #[.int .i64 ma, .int .i64 mb, .int .i64 mc] 219) := ⟨_, rfl⟩
      rw [← hW10]
      have k10 : Kept W W10 := by rw [hW10]; exact k9.alloc _
      have bM := Blk.new w9 #[.int .i64 ma, .int .i64 mb, .int .i64 mc] 219
      rw [← hW10] at bM
      have HM10 := Lib.hid bM
      have HB10 := Lib.hid (show Blk W10 W.heap.size _ _ from by rw [hW10]; exact HB9.out.alloc _)
      have HR10 := Lib.hid (show Blk W10 (w.heap.size + 1) _ _ from by rw [hW10]; exact HR9.out.alloc _)
      have hz9 : Hid (w9.heap.size < W10.heap.size ∧ W.heap.size < w9.heap.size) := Lib.hid ⟨bM.lt, HB9.out.lt⟩
      generalize hMv : w9.heap.size = Mv at *
      clear hW10 hMv HB9 HR9 k9 bM
      go_cut [] (fun wx => ∃ (kd : Int) (pri : ByteArray) (rk s0 s1 s2 : Int) (com' omi' : List Nat) (z0 z1 z2 z3 u1 u2 u3 : Value), Hid (Blk wx W.heap.size #[.int .i64 y, .int .i64 dm, .int .i64 dd, .int .i64 ((fst 2 y + (i : Int)) % 7), .string ss, .int .i64 wk, .int .i64 kd, .string pri, .int .i64 rk, .int .i64 s0, .int .i64 s1, .int .i64 s2, .slice none 0 0, .slice none 0 0] 56) ∧ Hid (Blk wx (w.heap.size + 1) #[z0, z1, z2, z3, u1, u2, u3] 168) ∧
        Hid (wx.ownsRow 0 3 1 u1 com'.length (natV com')) ∧ Hid (wx.ownsRow 0 3 1 u2 omi'.length (natV omi')) ∧ Hid (com'.length ≤ 2000 ∧ omi'.length ≤ 2000 ∧ (∀ i ∈ com', i < M.length) ∧ ∀ i ∈ omi', i < M.length) ∧
        Hid (en = ⟨⟨y, dm, dd⟩, (fst 2 y + (i : Int)) % 7, ss, wk, kd, pri, rk, ⟨s0, s1, s2⟩, idsC M com', idsC M omi'⟩) ∧ Hid (Blk wx w.heap.size #[.int .i64 0, .int .i64 0, .int .i64 0, .int .i64 0, .string ⟨#[]⟩, .int .i64 0, .int .i64 0, .string ⟨#[]⟩, .int .i64 0, .int .i64 0, .int .i64 0, .int .i64 0, .slice none 0 0, .slice none 0 0] 56) ∧ Kept w wx)
      case first =>
        rcases HCA.out with ⟨rfl, htk⟩ | ⟨rfl, htk, hma, hmb⟩
        · have HE1 := HEN.out htk
          go_wp2_with fail
          go_meet
          refine ⟨_, _, _, _, _, _, _, _, _, _, _, _, _, _, _, HB10, HR10, Lib.hid (owns_base (owns_kept HRW.out.r1 (hkW.trans k10)) (Nat.zero_le _)), Lib.hid (owns_base (owns_kept HRW.out.r2 (hkW.trans k10)) (Nat.zero_le _)), Lib.hid ⟨?_, ?_, HRO.out.mcom, HRO.out.momi⟩, Lib.hid HE1, Lib.hid (HE.out.kept k10), hkW.trans k10⟩
          · exact Nat.le_trans HRO.out.lcom (by omega)
          · exact Nat.le_trans HRO.out.lomi (by omega)
        · as_aux_lemma =>
          have HE1 := Lib.hid (HES.out _ htk)
          obtain ⟨bm, om2, rfl, c0, c1, c2, c3, c4, c5, c6, c7, c8⟩ := (HI0.out.kept ((h0.trans hkW).trans k10)).hM.cells ma hma
          have m0 : W10.cell? ⟨Mv, 0, none⟩ = some (.int .i64 ma) := by rw [HM10.out.cell]; rfl
          have bP10 := HPW.out.kept k10
          have p2 : W10.cell? ⟨P, 2, none⟩ = some (.slice (some ⟨bm, om2, none⟩) M.length q') := by rw [bP10.cell]; rfl
          have lP10 := bP10.lt
          have lbm := lt_cellL c0
          have hmz : (ma : Int) < (M.length : Int) := by omega
          have hlM := HM10.out.lt
          have hTS := Lib.hid htk
          clear htk bP10
          dsimp only at HE1
          generalize hmM : M[ma]! = mr at *
          obtain ⟨ms, mA, mB, mk, mm, md, mo, mwd, mcn⟩ := mr
          dsimp only at c0 c1 c2 c3 c4 c5 c6 c7 c8 HE1
          go_wp2_with fail
          go_region
          obtain ⟨W11, hW11⟩ : ∃ x, x = (W10.alloc (.cells #[.string ms, .int .i64 mA, .int .i64 mB, .int .i64 mk, .int .i64 mm, .int .i64 md, .int .i64 mo, .int .i64 mwd, .int .i64 mcn] 66)).drew := ⟨_, rfl⟩
          rw [← hW11]
          have k11 : Kept W10 W11 := by rw [hW11]; exact ((Kept.refl W10).alloc _).drew
          have bF := (Blk.new W10 #[.string ms, .int .i64 mA, .int .i64 mB, .int .i64 mk, .int .i64 mm, .int .i64 md, .int .i64 mo, .int .i64 mwd, .int .i64 mcn] 66).drew
          rw [← hW11] at bF
          have bE11 := HB10.out.kept k11
          have lF := bF.lt
          have lE11 := bE11.lt
          have fF := Lib.hid (show W.heap.size < W10.heap.size from HB10.out.lt)
          generalize hFa : W10.heap.size = Fa at *
          have g0 : W11.cell? ⟨Fa, 0, none⟩ = some (.string ms) := by rw [bF.cell]; rfl
          have g1 : W11.cell? ⟨Fa, 1, none⟩ = some (.int .i64 mA) := by rw [bF.cell]; rfl
          have e6 : W11.cell? ⟨W.heap.size, 6, none⟩ = some (.int .i64 pk) := by rw [bE11.cell]; rfl
          have e7 : W11.cell? ⟨W.heap.size, 7, none⟩ = some (.string ps) := by rw [bE11.cell]; rfl
          have e8 : W11.cell? ⟨W.heap.size, 8, none⟩ = some (.int .i64 pr) := by rw [bE11.cell]; rfl
          have f6 := bE11.free 6
          have f7 := bE11.free 7
          have f8 := bE11.free 8
          have HE11 := Lib.hid bE11
          have hFE : Fa ≠ W.heap.size := by have := fF.out; omega
          clear hW11 bF bE11 c0 c1 c2 c3 c4 c5 c6 c7 c8 p2 m0 lbm
          go_wp2_with fail
          go_region
          obtain ⟨W12, hW12⟩ : ∃ x, x = (((W11.setCell ⟨W.heap.size, 6, none⟩ (.int .i64 3)).setCell ⟨W.heap.size, 7, none⟩ (.string ms)).setCell ⟨W.heap.size, 8, none⟩ (.int .i64 mA)).drew := ⟨_, rfl⟩
          rw [← hW12]
          have k12 : Kept W W12 := by rw [hW12]; exact (Kept.setCell (Kept.setCell (Kept.setCell (k10.trans k11) (Nat.le_refl _) _) (Nat.le_refl _) _) (Nat.le_refl _) _).drew
          have hME : Mv ≠ W.heap.size := by have := hz9.out; omega
          have hMR : Mv ≠ (w.heap.size + 1) := by have := hz9.out; have := hzW.out; omega
          have hER : W.heap.size ≠ (w.heap.size + 1) := by have := hzW.out; omega
          have HM12 := Lib.hid (show Blk W12 Mv _ _ from by rw [hW12]; exact ((((HM10.out.kept k11).other hME _ _).other hME _ _).other hME _ _).drew)
          have HR12 := Lib.hid (show Blk W12 (w.heap.size + 1) _ _ from by rw [hW12]; exact ((((HR10.out.kept k11).other hER.symm _ _).other hER.symm _ _).other hER.symm _ _).drew)
          have HE12 := Lib.hid (show Blk W12 W.heap.size _ _ from by rw [hW12]; exact (blk_set (blk_set (blk_set HE11.out _ rfl) _ rfl) _ rfl).drew)
          have m1 : W12.cell? ⟨Mv, 1, none⟩ = some (.int .i64 mb) := by rw [HM12.out.cell]; rfl
          have m1d : W12.drew.cell? ⟨Mv, 1, none⟩ = some (.int .i64 mb) := m1
          have lM12 := HM12.out.lt
          have p4 : W.cell? ⟨P, 4, none⟩ = some (.int .i64 (fst 2 y)) := by rw [HPW.out.cell]; rfl
          have lPW := HPW.out.lt
          have hdt := dateIn_ok y mb (by have := C.h1; omega) C.h2 hmb
          have KD2 := Lib.hid (fun w' => FromDay_ok (fst 2 y + (mb : Int)) y (dateIn y mb).m (dateIn y mb).d w' hdt.1 hdt.2.1)
          have hw2 : wrap64 (fst 2 y + (mb : Int)) = fst 2 y + (mb : Int) := by unfold wrap64; omega
          have hw3 : IntKind.i64.wrap (fst 2 y + (mb : Int)) = fst 2 y + (mb : Int) := by rw [IntKind.wrap_i64]; omega
          clear hdt hW12 hFa hmM fF hFE hTS k11 g0 g1 e6 e7 e8 f6 f7 f8 HE11 lF lE11
          generalize (dateIn y (mb : Int)).m = dm2 at *
          generalize (dateIn y (mb : Int)).d = dd2 at *
          go_wp2_with fail
          refine wp_region_held_drew (S := fun w' => Kept W w' ∧ (∀ b o, b < W.heap.size → w'.cell? ⟨b, o, none⟩ = W.cell? ⟨b, o, none⟩) ∧ w'.cell? ⟨Mv, 1, none⟩ = some (.int .i64 mb)) (by kernel_rfl) ?_ (fun hHeld => ?_)
          · (refine held_of3 ?_ ?_; rotate_left; (· first | with_reducible exact m1 | with_reducible exact m1d | with_reducible exact m13 | with_reducible exact m14); (· (repeat (first | with_reducible assumption | with_reducible exact Kept.refl _ | with_reducible apply Kept.drew | with_reducible apply Kept.alloc | (with_reducible refine Kept.setCell ?_ (by first | exact Nat.le_refl _ | (dsimp only; omega)) _)))))
          first
          | (refine wpAnyH_take (i := 0) (v := ?_) (Array.getElem?_eq_getElem (by decide)) (by kernel_rfl) (by kernel_rfl) (by kernel_rfl) (fun _ _ _ h => h) (Or.inl ⟨by rfl, ?_⟩) (by assumption) ?_; rotate_left; (intro w hSw; (try dsimp only at hSw); go_simp; done); simp only [Act.put, List.setIfInBounds_toArray, List.set_cons_zero, List.set_cons_succ, List.getElem_toArray, List.getElem_cons_succ, List.getElem_cons_zero])
          | (refine wpAnyH_take (i := 0) (v := ?_) (Array.getElem?_eq_getElem (by decide)) (by kernel_rfl) (by kernel_rfl) (by kernel_rfl) (fun _ _ _ h => h) (Or.inl ⟨by rfl, ?_⟩) (by assumption) ?_; rotate_left; (intro w hSw; (try dsimp only at hSw); go_simp; with_reducible rfl); simp only [Act.put, List.setIfInBounds_toArray, List.set_cons_zero, List.set_cons_succ, List.getElem_toArray, List.getElem_cons_succ, List.getElem_cons_zero])
          | (refine wpAnyH_take (i := 0) (v := undef) (Array.getElem?_eq_getElem (by decide)) (by kernel_rfl) (by kernel_rfl) (by kernel_rfl) (fun _ _ _ h => h) (Or.inr ⟨by rfl, rfl⟩) (by assumption) ?_; simp only [Act.put, List.setIfInBounds_toArray, List.set_cons_zero, List.set_cons_succ, List.getElem_toArray, List.getElem_cons_succ, List.getElem_cons_zero])
          first
          | (refine wpAnyH_take (i := 1) (v := ?_) (Array.getElem?_eq_getElem (by decide)) (by kernel_rfl) (by kernel_rfl) (by kernel_rfl) (fun _ _ _ h => h) (Or.inl ⟨by rfl, ?_⟩) (by assumption) ?_; rotate_left; (intro w hSw; (try dsimp only at hSw); go_simp; done); simp only [Act.put, List.setIfInBounds_toArray, List.set_cons_zero, List.set_cons_succ, List.getElem_toArray, List.getElem_cons_succ, List.getElem_cons_zero])
          | (refine wpAnyH_take (i := 1) (v := ?_) (Array.getElem?_eq_getElem (by decide)) (by kernel_rfl) (by kernel_rfl) (by kernel_rfl) (fun _ _ _ h => h) (Or.inl ⟨by rfl, ?_⟩) (by assumption) ?_; rotate_left; (intro w hSw; (try dsimp only at hSw); go_simp; with_reducible rfl); simp only [Act.put, List.setIfInBounds_toArray, List.set_cons_zero, List.set_cons_succ, List.getElem_toArray, List.getElem_cons_succ, List.getElem_cons_zero])
          | (refine wpAnyH_take (i := 1) (v := undef) (Array.getElem?_eq_getElem (by decide)) (by kernel_rfl) (by kernel_rfl) (by kernel_rfl) (fun _ _ _ h => h) (Or.inr ⟨by rfl, rfl⟩) (by assumption) ?_; simp only [Act.put, List.setIfInBounds_toArray, List.set_cons_zero, List.set_cons_succ, List.getElem_toArray, List.getElem_cons_succ, List.getElem_cons_zero])
          first
          | (refine wpAnyH_take (i := 2) (v := ?_) (Array.getElem?_eq_getElem (by decide)) (by kernel_rfl) (by kernel_rfl) (by kernel_rfl) (fun _ _ _ h => h) (Or.inl ⟨by rfl, ?_⟩) (by assumption) ?_; rotate_left; (intro w hSw; (try dsimp only at hSw); go_simp; done); simp only [Act.put, List.setIfInBounds_toArray, List.set_cons_zero, List.set_cons_succ, List.getElem_toArray, List.getElem_cons_succ, List.getElem_cons_zero])
          | (refine wpAnyH_take (i := 2) (v := ?_) (Array.getElem?_eq_getElem (by decide)) (by kernel_rfl) (by kernel_rfl) (by kernel_rfl) (fun _ _ _ h => h) (Or.inl ⟨by rfl, ?_⟩) (by assumption) ?_; rotate_left; (intro w hSw; (try dsimp only at hSw); go_simp; with_reducible rfl); simp only [Act.put, List.setIfInBounds_toArray, List.set_cons_zero, List.set_cons_succ, List.getElem_toArray, List.getElem_cons_succ, List.getElem_cons_zero])
          | (refine wpAnyH_take (i := 2) (v := undef) (Array.getElem?_eq_getElem (by decide)) (by kernel_rfl) (by kernel_rfl) (by kernel_rfl) (fun _ _ _ h => h) (Or.inr ⟨by rfl, rfl⟩) (by assumption) ?_; simp only [Act.put, List.setIfInBounds_toArray, List.set_cons_zero, List.set_cons_succ, List.getElem_toArray, List.getElem_cons_succ, List.getElem_cons_zero])
          first
          | (refine wpAnyH_take (i := 3) (v := ?_) (Array.getElem?_eq_getElem (by decide)) (by kernel_rfl) (by kernel_rfl) (by kernel_rfl) (fun _ _ _ h => h) (Or.inl ⟨by rfl, ?_⟩) (by assumption) ?_; rotate_left; (intro w hSw; (try dsimp only at hSw); go_simp; done); simp only [Act.put, List.setIfInBounds_toArray, List.set_cons_zero, List.set_cons_succ, List.getElem_toArray, List.getElem_cons_succ, List.getElem_cons_zero])
          | (refine wpAnyH_take (i := 3) (v := ?_) (Array.getElem?_eq_getElem (by decide)) (by kernel_rfl) (by kernel_rfl) (by kernel_rfl) (fun _ _ _ h => h) (Or.inl ⟨by rfl, ?_⟩) (by assumption) ?_; rotate_left; (intro w hSw; (try dsimp only at hSw); go_simp; with_reducible rfl); simp only [Act.put, List.setIfInBounds_toArray, List.set_cons_zero, List.set_cons_succ, List.getElem_toArray, List.getElem_cons_succ, List.getElem_cons_zero])
          | (refine wpAnyH_take (i := 3) (v := undef) (Array.getElem?_eq_getElem (by decide)) (by kernel_rfl) (by kernel_rfl) (by kernel_rfl) (fun _ _ _ h => h) (Or.inr ⟨by rfl, rfl⟩) (by assumption) ?_; simp only [Act.put, List.setIfInBounds_toArray, List.set_cons_zero, List.set_cons_succ, List.getElem_toArray, List.getElem_cons_succ, List.getElem_cons_zero])
          first
          | (refine wpAnyH_take (i := 4) (v := ?_) (Array.getElem?_eq_getElem (by decide)) (by kernel_rfl) (by kernel_rfl) (by kernel_rfl) (fun _ _ _ h => h) (Or.inl ⟨by rfl, ?_⟩) (by assumption) ?_; rotate_left; (intro w hSw; (try dsimp only at hSw); go_simp; done); simp only [Act.put, List.setIfInBounds_toArray, List.set_cons_zero, List.set_cons_succ, List.getElem_toArray, List.getElem_cons_succ, List.getElem_cons_zero])
          | (refine wpAnyH_take (i := 4) (v := ?_) (Array.getElem?_eq_getElem (by decide)) (by kernel_rfl) (by kernel_rfl) (by kernel_rfl) (fun _ _ _ h => h) (Or.inl ⟨by rfl, ?_⟩) (by assumption) ?_; rotate_left; (intro w hSw; (try dsimp only at hSw); go_simp; with_reducible rfl); simp only [Act.put, List.setIfInBounds_toArray, List.set_cons_zero, List.set_cons_succ, List.getElem_toArray, List.getElem_cons_succ, List.getElem_cons_zero])
          | (refine wpAnyH_take (i := 4) (v := undef) (Array.getElem?_eq_getElem (by decide)) (by kernel_rfl) (by kernel_rfl) (by kernel_rfl) (fun _ _ _ h => h) (Or.inr ⟨by rfl, rfl⟩) (by assumption) ?_; simp only [Act.put, List.setIfInBounds_toArray, List.set_cons_zero, List.set_cons_succ, List.getElem_toArray, List.getElem_cons_succ, List.getElem_cons_zero])
          first
          | (refine wpAnyH_take (i := 5) (v := ?_) (Array.getElem?_eq_getElem (by decide)) (by kernel_rfl) (by kernel_rfl) (by kernel_rfl) (fun _ _ _ h => h) (Or.inl ⟨by rfl, ?_⟩) (by assumption) ?_; rotate_left; (intro w hSw; (try dsimp only at hSw); go_simp; done); simp only [Act.put, List.setIfInBounds_toArray, List.set_cons_zero, List.set_cons_succ, List.getElem_toArray, List.getElem_cons_succ, List.getElem_cons_zero])
          | (refine wpAnyH_take (i := 5) (v := ?_) (Array.getElem?_eq_getElem (by decide)) (by kernel_rfl) (by kernel_rfl) (by kernel_rfl) (fun _ _ _ h => h) (Or.inl ⟨by rfl, ?_⟩) (by assumption) ?_; rotate_left; (intro w hSw; (try dsimp only at hSw); go_simp; with_reducible rfl); simp only [Act.put, List.setIfInBounds_toArray, List.set_cons_zero, List.set_cons_succ, List.getElem_toArray, List.getElem_cons_succ, List.getElem_cons_zero])
          | (refine wpAnyH_take (i := 5) (v := undef) (Array.getElem?_eq_getElem (by decide)) (by kernel_rfl) (by kernel_rfl) (by kernel_rfl) (fun _ _ _ h => h) (Or.inr ⟨by rfl, rfl⟩) (by assumption) ?_; simp only [Act.put, List.setIfInBounds_toArray, List.set_cons_zero, List.set_cons_succ, List.getElem_toArray, List.getElem_cons_succ, List.getElem_cons_zero])
          first
          | (refine wpAnyH_take (i := 6) (v := ?_) (Array.getElem?_eq_getElem (by decide)) (by kernel_rfl) (by kernel_rfl) (by kernel_rfl) (fun _ _ _ h => h) (Or.inl ⟨by rfl, ?_⟩) (by assumption) ?_; rotate_left; (intro w hSw; (try dsimp only at hSw); go_simp; done); simp only [Act.put, List.setIfInBounds_toArray, List.set_cons_zero, List.set_cons_succ, List.getElem_toArray, List.getElem_cons_succ, List.getElem_cons_zero])
          | (refine wpAnyH_take (i := 6) (v := ?_) (Array.getElem?_eq_getElem (by decide)) (by kernel_rfl) (by kernel_rfl) (by kernel_rfl) (fun _ _ _ h => h) (Or.inl ⟨by rfl, ?_⟩) (by assumption) ?_; rotate_left; (intro w hSw; (try dsimp only at hSw); go_simp; with_reducible rfl); simp only [Act.put, List.setIfInBounds_toArray, List.set_cons_zero, List.set_cons_succ, List.getElem_toArray, List.getElem_cons_succ, List.getElem_cons_zero])
          | (refine wpAnyH_take (i := 6) (v := undef) (Array.getElem?_eq_getElem (by decide)) (by kernel_rfl) (by kernel_rfl) (by kernel_rfl) (fun _ _ _ h => h) (Or.inr ⟨by rfl, rfl⟩) (by assumption) ?_; simp only [Act.put, List.setIfInBounds_toArray, List.set_cons_zero, List.set_cons_succ, List.getElem_toArray, List.getElem_cons_succ, List.getElem_cons_zero])
          refine wpAnyH_ready (rs := [7]) (by kernel_rfl) (by simp) ?_
          refine AllReadyH.cons rfl (fun K hK => ?_) AllReadyH.nil
          go_simp
          (go_at_call 149; (with_reducible refine (KD2.out _).mono ?_); rintro e w13 ⟨rfl, hk13⟩; have kk13 : Kept W12 w13 := Kept.trans (by (repeat (first | with_reducible assumption | with_reducible exact Kept.refl _ | with_reducible apply Kept.drew | with_reducible apply Kept.alloc | (with_reducible refine Kept.setCell ?_ (by first | exact Nat.le_refl _ | (dsimp only; omega)) _)))) hk13; have kw13 : Kept W w13 := Kept.trans k12 kk13; have bM13 := HM12.out.kept kk13; have m13 : w13.cell? ⟨Mv, 1, none⟩ = some (.int .i64 mb) := (by rw [bM13.cell]; rfl); have m14 : (((w13.setCell ⟨W.heap.size, 9, none⟩ (.int .i64 y)).setCell ⟨W.heap.size, 10, none⟩ (.int .i64 dm2)).setCell ⟨W.heap.size, 11, none⟩ (.int .i64 dd2)).cell? ⟨Mv, 1, none⟩ = some (.int .i64 mb) := (Blk.cell (Blk.other (Blk.other (Blk.other bM13 hME _ _) hME _ _) hME _ _) 1).trans rfl; have b13 := HE12.out.kept kk13; have e9 : w13.cell? ⟨W.heap.size, 9, none⟩ = some (.int .i64 0) := (by rw [b13.cell]; rfl); have e10 : w13.cell? ⟨W.heap.size, 10, none⟩ = some (.int .i64 0) := (by rw [b13.cell]; rfl); have e11 : w13.cell? ⟨W.heap.size, 11, none⟩ = some (.int .i64 0) := (by rw [b13.cell]; rfl); have f9 := b13.free 9; have f10 := b13.free 10; have f11 := b13.free 11; have l13 := b13.lt)
          refine hK.out _ _ ?_ (fun hHeld7 => ?_)
          · (refine held_of3 ?_ ?_; rotate_left; (· first | with_reducible exact m1 | with_reducible exact m1d | with_reducible exact m13 | with_reducible exact m14); (· (repeat (first | with_reducible assumption | with_reducible exact Kept.refl _ | with_reducible apply Kept.drew | with_reducible apply Kept.alloc | (with_reducible refine Kept.setCell ?_ (by first | exact Nat.le_refl _ | (dsimp only; omega)) _)))))
          clear hK K
          try simp only [Act.put, List.setIfInBounds_toArray, List.set_cons_zero, List.set_cons_succ, List.getElem_toArray, List.getElem_cons_succ, List.getElem_cons_zero]
          first
          | (refine wpAnyH_take (i := 8) (v := ?_) (Array.getElem?_eq_getElem (by decide)) (by kernel_rfl) (by kernel_rfl) (by kernel_rfl) (fun _ _ _ h => h) (Or.inl ⟨by rfl, ?_⟩) (by assumption) ?_; rotate_left; (intro w hSw; (try dsimp only at hSw); go_simp; done); simp only [Act.put, List.setIfInBounds_toArray, List.set_cons_zero, List.set_cons_succ, List.getElem_toArray, List.getElem_cons_succ, List.getElem_cons_zero])
          | (refine wpAnyH_take (i := 8) (v := ?_) (Array.getElem?_eq_getElem (by decide)) (by kernel_rfl) (by kernel_rfl) (by kernel_rfl) (fun _ _ _ h => h) (Or.inl ⟨by rfl, ?_⟩) (by assumption) ?_; rotate_left; (intro w hSw; (try dsimp only at hSw); go_simp; with_reducible rfl); simp only [Act.put, List.setIfInBounds_toArray, List.set_cons_zero, List.set_cons_succ, List.getElem_toArray, List.getElem_cons_succ, List.getElem_cons_zero])
          | (refine wpAnyH_take (i := 8) (v := undef) (Array.getElem?_eq_getElem (by decide)) (by kernel_rfl) (by kernel_rfl) (by kernel_rfl) (fun _ _ _ h => h) (Or.inr ⟨by rfl, rfl⟩) (by assumption) ?_; simp only [Act.put, List.setIfInBounds_toArray, List.set_cons_zero, List.set_cons_succ, List.getElem_toArray, List.getElem_cons_succ, List.getElem_cons_zero])
          first
          | (refine wpAnyH_take (i := 9) (v := ?_) (Array.getElem?_eq_getElem (by decide)) (by kernel_rfl) (by kernel_rfl) (by kernel_rfl) (fun _ _ _ h => h) (Or.inl ⟨by rfl, ?_⟩) (by assumption) ?_; rotate_left; (intro w hSw; (try dsimp only at hSw); go_simp; done); simp only [Act.put, List.setIfInBounds_toArray, List.set_cons_zero, List.set_cons_succ, List.getElem_toArray, List.getElem_cons_succ, List.getElem_cons_zero])
          | (refine wpAnyH_take (i := 9) (v := ?_) (Array.getElem?_eq_getElem (by decide)) (by kernel_rfl) (by kernel_rfl) (by kernel_rfl) (fun _ _ _ h => h) (Or.inl ⟨by rfl, ?_⟩) (by assumption) ?_; rotate_left; (intro w hSw; (try dsimp only at hSw); go_simp; with_reducible rfl); simp only [Act.put, List.setIfInBounds_toArray, List.set_cons_zero, List.set_cons_succ, List.getElem_toArray, List.getElem_cons_succ, List.getElem_cons_zero])
          | (refine wpAnyH_take (i := 9) (v := undef) (Array.getElem?_eq_getElem (by decide)) (by kernel_rfl) (by kernel_rfl) (by kernel_rfl) (fun _ _ _ h => h) (Or.inr ⟨by rfl, rfl⟩) (by assumption) ?_; simp only [Act.put, List.setIfInBounds_toArray, List.set_cons_zero, List.set_cons_succ, List.getElem_toArray, List.getElem_cons_succ, List.getElem_cons_zero])
          first
          | (refine wpAnyH_take (i := 10) (v := ?_) (Array.getElem?_eq_getElem (by decide)) (by kernel_rfl) (by kernel_rfl) (by kernel_rfl) (fun _ _ _ h => h) (Or.inl ⟨by rfl, ?_⟩) (by assumption) ?_; rotate_left; (intro w hSw; (try dsimp only at hSw); go_simp; done); simp only [Act.put, List.setIfInBounds_toArray, List.set_cons_zero, List.set_cons_succ, List.getElem_toArray, List.getElem_cons_succ, List.getElem_cons_zero])
          | (refine wpAnyH_take (i := 10) (v := ?_) (Array.getElem?_eq_getElem (by decide)) (by kernel_rfl) (by kernel_rfl) (by kernel_rfl) (fun _ _ _ h => h) (Or.inl ⟨by rfl, ?_⟩) (by assumption) ?_; rotate_left; (intro w hSw; (try dsimp only at hSw); go_simp; with_reducible rfl); simp only [Act.put, List.setIfInBounds_toArray, List.set_cons_zero, List.set_cons_succ, List.getElem_toArray, List.getElem_cons_succ, List.getElem_cons_zero])
          | (refine wpAnyH_take (i := 10) (v := undef) (Array.getElem?_eq_getElem (by decide)) (by kernel_rfl) (by kernel_rfl) (by kernel_rfl) (fun _ _ _ h => h) (Or.inr ⟨by rfl, rfl⟩) (by assumption) ?_; simp only [Act.put, List.setIfInBounds_toArray, List.set_cons_zero, List.set_cons_succ, List.getElem_toArray, List.getElem_cons_succ, List.getElem_cons_zero])
          first
          | (refine wpAnyH_take (i := 11) (v := ?_) (Array.getElem?_eq_getElem (by decide)) (by kernel_rfl) (by kernel_rfl) (by kernel_rfl) (fun _ _ _ h => h) (Or.inl ⟨by rfl, ?_⟩) (by assumption) ?_; rotate_left; (intro w hSw; (try dsimp only at hSw); go_simp; done); simp only [Act.put, List.setIfInBounds_toArray, List.set_cons_zero, List.set_cons_succ, List.getElem_toArray, List.getElem_cons_succ, List.getElem_cons_zero])
          | (refine wpAnyH_take (i := 11) (v := ?_) (Array.getElem?_eq_getElem (by decide)) (by kernel_rfl) (by kernel_rfl) (by kernel_rfl) (fun _ _ _ h => h) (Or.inl ⟨by rfl, ?_⟩) (by assumption) ?_; rotate_left; (intro w hSw; (try dsimp only at hSw); go_simp; with_reducible rfl); simp only [Act.put, List.setIfInBounds_toArray, List.set_cons_zero, List.set_cons_succ, List.getElem_toArray, List.getElem_cons_succ, List.getElem_cons_zero])
          | (refine wpAnyH_take (i := 11) (v := undef) (Array.getElem?_eq_getElem (by decide)) (by kernel_rfl) (by kernel_rfl) (by kernel_rfl) (fun _ _ _ h => h) (Or.inr ⟨by rfl, rfl⟩) (by assumption) ?_; simp only [Act.put, List.setIfInBounds_toArray, List.set_cons_zero, List.set_cons_succ, List.getElem_toArray, List.getElem_cons_succ, List.getElem_cons_zero])
          refine wpAnyH_ready (rs := [12]) (by kernel_rfl) (by simp) ?_
          refine AllReadyH.cons rfl (fun K hK => ?_) AllReadyH.nil
          go_simp
          refine hK.out _ _ ?_ (fun hHeld12 => ?_)
          · (refine held_of3 ?_ ?_; rotate_left; (· first | with_reducible exact m1 | with_reducible exact m1d | with_reducible exact m13 | with_reducible exact m14); (· (repeat (first | with_reducible assumption | with_reducible exact Kept.refl _ | with_reducible apply Kept.drew | with_reducible apply Kept.alloc | (with_reducible refine Kept.setCell ?_ (by first | exact Nat.le_refl _ | (dsimp only; omega)) _)))))
          clear hK K
          try simp only [Act.put, List.setIfInBounds_toArray, List.set_cons_zero, List.set_cons_succ, List.getElem_toArray, List.getElem_cons_succ, List.getElem_cons_zero]
          refine wpAnyH_done (by kernel_rfl) ?_ _
          obtain ⟨W14, hW14⟩ : ∃ x, x = ((w13.setCell ⟨W.heap.size, 9, none⟩ (.int .i64 y)).setCell ⟨W.heap.size, 10, none⟩ (.int .i64 dm2)).setCell ⟨W.heap.size, 11, none⟩ (.int .i64 dd2) := ⟨_, rfl⟩
          rw [← hW14]
          have k14 : Kept W W14 := by rw [hW14]; exact Kept.setCell (Kept.setCell (Kept.setCell kw13 (Nat.le_refl _) _) (Nat.le_refl _) _) (Nat.le_refl _) _
          have HE14 := Lib.hid (show Blk W14 W.heap.size _ _ from by rw [hW14]; exact blk_set (blk_set (blk_set b13 _ rfl) _ rfl) _ rfl)
          have HR14 := Lib.hid (show Blk W14 (w.heap.size + 1) _ _ from by rw [hW14]; exact (((HR12.out.kept kk13).other hER.symm _ _).other hER.symm _ _).other hER.symm _ _)
          have HER := Lib.hid hER
          clear hW14 b13 bM13 m13 m14 e9 e10 e11 f9 f10 f11 l13 hk13 kk13 kw13 m1 m1d p4 KD2 HE12 HR12 k12 lPW hw2 hw3 lM12 hME hMR hHeld hHeld7 hHeld12 hER
          as_aux_lemma =>
            have bP14 := HPW.out.kept k14
            have p0 : W14.cell? ⟨P, 0, none⟩ = some (.int .i64 f) := by rw [bP14.cell]; rfl
            have p1 : W14.cell? ⟨P, 1, none⟩ = some (.slice (some ⟨bs, os, none⟩) L.length q) := by rw [bP14.cell]; rfl
            have p2 : W14.cell? ⟨P, 2, none⟩ = some (.slice (some ⟨bm, om2, none⟩) M.length q') := by rw [bP14.cell]; rfl
            have r0 : W14.cell? ⟨(w.heap.size + 1), 0, none⟩ = some (.int .i64 pk) := by rw [HR14.out.cell]; rfl
            have r1 : W14.cell? ⟨(w.heap.size + 1), 1, none⟩ = some (.int .i64 pi) := by rw [HR14.out.cell]; rfl
            have r2 : W14.cell? ⟨(w.heap.size + 1), 2, none⟩ = some (.int .i64 pr) := by rw [HR14.out.cell]; rfl
            have r3 : W14.cell? ⟨(w.heap.size + 1), 3, none⟩ = some (.string ps) := by rw [HR14.out.cell]; rfl
            have r4 : W14.cell? ⟨(w.heap.size + 1), 4, none⟩ = some (.slice x1 com.length y1) := by rw [HR14.out.cell]; rfl
            have r5 : W14.cell? ⟨(w.heap.size + 1), 5, none⟩ = some (.slice x2 omi.length y2) := by rw [HR14.out.cell]; rfl
            have r6 : W14.cell? ⟨(w.heap.size + 1), 6, none⟩ = some (.slice x3 imp.length y3) := by rw [HR14.out.cell]; rfl
            have lR14 := HR14.out.lt
            have lP14 := bP14.lt
            have KDi := Lib.hid (fun w' (k : Kept W w') => Displace_ok f (some ⟨bs, os, none⟩) (some ⟨bm, om2, none⟩) q q' L M w' (HI0.out.kept ((h0.trans hkW).trans k)).hM ⟨⟨pk, pi, pr, ps⟩, com, omi, imp⟩ b0 _ _ _ (owns_kept HRW.out.r1 (hkW.trans k)) (owns_kept HRW.out.r2 (hkW.trans k)) (owns_kept HRW.out.r3 (hkW.trans k)) HRO.out.lcom HRO.out.lomi HRO.out.limp HRO.out.pidx)
            dsimp only [resV, catV] at KDi
            go_wp2_with fail
            go_still_tail 5, (by kernel_rfl)
            change wpList _ _ _ _ _ W14.drew
            go_wp2_with fail
            go_at_call 162
            (with_reducible refine (KDi.out _ ?_).mono ?_)
            · exact k14.drew
            rintro e w15 ⟨u1, u2, u3, rfl, ho1, ho2, ⟨q3, n3, g3, rfl⟩, hk15⟩
            obtain ⟨q1, g1, rfl⟩ := owns_form ho1
            obtain ⟨q2, g2, rfl⟩ := owns_form ho2
            have k15 : Kept W w15 := Kept.trans k14.drew hk15
            have HD := Lib.hid (disp_ok HRO.out)
            have bR15 := HR14.out.drew.kept hk15
            have HE15 := Lib.hid (HE14.out.drew.kept hk15)
            have HO1 := Lib.hid (owns_base ho1 (Nat.zero_le _))
            have HO2 := Lib.hid (owns_base ho2 (Nat.zero_le _))
            clear p0 p1 p2 r0 r1 r2 r3 r4 r5 r6 ho1 ho2 hk15 KDi lR14 lP14 bP14
            generalize displaceC M ⟨⟨pk, pi, pr, ps⟩, com, omi, imp⟩ = dr at *
            obtain ⟨⟨ek, ei, er, es⟩, ecom, eomi, eimp⟩ := dr
            have r0 : w15.cell? ⟨(w.heap.size + 1), 0, none⟩ = some (.int .i64 pk) := by rw [bR15.cell]; rfl
            have r1 : w15.cell? ⟨(w.heap.size + 1), 1, none⟩ = some (.int .i64 pi) := by rw [bR15.cell]; rfl
            have r2 : w15.cell? ⟨(w.heap.size + 1), 2, none⟩ = some (.int .i64 pr) := by rw [bR15.cell]; rfl
            have r3 : w15.cell? ⟨(w.heap.size + 1), 3, none⟩ = some (.string ps) := by rw [bR15.cell]; rfl
            have r4 : w15.cell? ⟨(w.heap.size + 1), 4, none⟩ = some (.slice x1 com.length y1) := by rw [bR15.cell]; rfl
            have r5 : w15.cell? ⟨(w.heap.size + 1), 5, none⟩ = some (.slice x2 omi.length y2) := by rw [bR15.cell]; rfl
            have r6 : w15.cell? ⟨(w.heap.size + 1), 6, none⟩ = some (.slice x3 imp.length y3) := by rw [bR15.cell]; rfl
            have f0 := bR15.free 0
            have f1 := bR15.free 1
            have f2 := bR15.free 2
            have f3 := bR15.free 3
            have f4 := bR15.free 4
            have f5 := bR15.free 5
            have f6 := bR15.free 6
            have lR15 := bR15.lt
            have HR15 := Lib.hid bR15
            clear bR15
            dsimp only at HO1 HO2 HE1 HD
            go_wp2_with fail
            go_meet
            obtain ⟨B, hrow⟩ := set7 (.int .i64 ek) (.int .i64 ei) (.int .i64 er) (.string es) (.slice q1 ecom.length g1) (.slice q2 eomi.length g2) (.slice q3 n3 g3) HR15.out _ rfl
            refine ⟨_, _, _, _, _, _, _, _, _, _, _, _, _, _, _, Lib.hid (HE15.out.set7o HER.out _ _ _ _ _ _ _), Lib.hid B, Lib.hid (hrow _ _ _ _ HO1.out), Lib.hid (hrow _ _ _ _ HO2.out), Lib.hid ⟨HD.out.1.1, HD.out.1.2, HD.out.2.1, HD.out.2.2⟩, HE1, Lib.hid ((HE.out.kept k15).set7o (Nat.ne_of_lt (Nat.lt_succ_self _)) _ _ _ _ _ _ _), kept_set7 _ _ _ _ _ _ _ (hkW.trans k15) (Nat.le_succ _)⟩
      case rest =>
        obtain ⟨kd, pri, rk, s0, s1, s2, ecom, eomi, z0, z1, z2, z3, u1, u2, u3, HE16, HR16, HO1, HO2, HL, HQ, HT16, k16⟩ := hcut
        obtain ⟨q1, g1, rfl⟩ := owns_form HO1.out
        obtain ⟨q2, g2, rfl⟩ := owns_form HO2.out
        have hER := Lib.hid (show W.heap.size ≠ (w.heap.size + 1) by have := hzW.out; omega)
        have hle : w.heap.size ≤ W.heap.size := by have := hzW.out; omega
        clear HEN HES HCA HM10 HB10 HR10 HPW HC HIy HSI HRO HRW HTO HT k10 hz9 HE HR0 hfb
        as_aux_lemma =>
          have r4 : wc.cell? ⟨(w.heap.size + 1), 4, none⟩ = some (.slice q1 ecom.length g1) := by rw [HR16.out.cell]; rfl
          have r5 : wc.cell? ⟨(w.heap.size + 1), 5, none⟩ = some (.slice q2 eomi.length g2) := by rw [HR16.out.cell]; rfl
          have r45 : wc.drew.cell? ⟨(w.heap.size + 1), 4, none⟩ = some (.slice q1 ecom.length g1) ∧ wc.drew.cell? ⟨(w.heap.size + 1), 5, none⟩ = some (.slice q2 eomi.length g2) := ⟨r4, r5⟩
          have bP16 := HP0.out.kept k16
          have lRE := HR16.out.lt
          have KI := Lib.hid (fun w' (k : Kept w w') (l : List Nat) v (hv : w'.ownsRow 0 3 1 v l.length (natV l)) => ids_ok o' q' M w' (HI0.out.kept (h0.trans k)).hM P (by rw [(HP0.out.kept k).cell]; rfl) l 0 v hv)
          go_wp2_with fail
          go_cut [] (fun wx => ∃ (v1 v2 : Value), Hid (Blk wx W.heap.size #[.int .i64 y, .int .i64 dm, .int .i64 dd, .int .i64 ((fst 2 y + (i : Int)) % 7), .string ss, .int .i64 wk, .int .i64 kd, .string pri, .int .i64 rk, .int .i64 s0, .int .i64 s1, .int .i64 s2, v1, v2] 56) ∧ Hid (Blk wx w.heap.size #[.int .i64 0, .int .i64 0, .int .i64 0, .int .i64 0, .string ⟨#[]⟩, .int .i64 0, .int .i64 0, .string ⟨#[]⟩, .int .i64 0, .int .i64 0, .int .i64 0, .int .i64 0, .slice none 0 0, .slice none 0 0] 56) ∧ Hid (wx.ownsRow w.heap.size 9 1 v1 ecom.length (strV (idsC M ecom))) ∧ Hid (wx.ownsRow w.heap.size 9 1 v2 eomi.length (strV (idsC M eomi))) ∧ Kept w wx)
          case first =>
            go_region_held3 (fun w' => Kept w w' ∧ (∀ b o, b < w.heap.size → w'.cell? ⟨b, o, none⟩ = w.cell? ⟨b, o, none⟩) ∧ w'.cell? ⟨(w.heap.size + 1), 4, none⟩ = some (.slice q1 ecom.length g1) ∧ w'.cell? ⟨(w.heap.size + 1), 5, none⟩ = some (.slice q2 eomi.length g2))
              ((refine held_of3 ?_ ?_; rotate_left; (· (first | with_reducible exact r45 | with_reducible exact RR1 | with_reducible exact RR1s _ _ | with_reducible exact RR2 | with_reducible exact RR2s _ _ | with_reducible exact RR2ss _ _ _ _)); (· (repeat (first | with_reducible assumption | with_reducible exact Kept.refl _ | with_reducible apply Kept.drew | with_reducible apply Kept.alloc | (with_reducible refine Kept.setCell ?_ (by first | exact Nat.le_refl _ | (dsimp only; omega)) _))))))
              (first
                | (go_at_call_of 163 (Value.slice q1 ecom.length g1); (with_reducible refine (KI.out _ ?_ ecom _ ?_ ?_ ?_).mono ?_); (· (repeat (first | with_reducible assumption | with_reducible exact Kept.refl _ | with_reducible apply Kept.drew | with_reducible apply Kept.alloc | (with_reducible refine Kept.setCell ?_ (by first | exact Nat.le_refl _ | (dsimp only; omega)) _)))); (· exact owns_kept HO1.out (by (repeat (first | with_reducible assumption | with_reducible exact Kept.refl _ | with_reducible apply Kept.drew | with_reducible apply Kept.alloc | (with_reducible refine Kept.setCell ?_ (by first | exact Nat.le_refl _ | (dsimp only; omega)) _))))); (· exact Nat.le_trans HL.out.1 (by omega)); (· exact HL.out.2.2.1); rintro e W1 ⟨v1, rfl, hw1, hk1⟩; obtain ⟨a1, c1, rfl⟩ := owns_form hw1; have kk1 : Kept wc W1 := Kept.trans (by (repeat (first | with_reducible assumption | with_reducible exact Kept.refl _ | with_reducible apply Kept.drew | with_reducible apply Kept.alloc | (with_reducible refine Kept.setCell ?_ (by first | exact Nat.le_refl _ | (dsimp only; omega)) _)))) hk1; have kw1 : Kept w W1 := k16.trans kk1; have bR1 := HR16.out.kept kk1; have bE1 := HE16.out.kept kk1; have RR1 : W1.cell? ⟨(w.heap.size + 1), 4, none⟩ = some (.slice q1 ecom.length g1) ∧ W1.cell? ⟨(w.heap.size + 1), 5, none⟩ = some (.slice q2 eomi.length g2) := ⟨(by rw [bR1.cell]; rfl), (by rw [bR1.cell]; rfl)⟩; have RR1s : ∀ o u, (W1.setCell ⟨W.heap.size, o, none⟩ u).cell? ⟨(w.heap.size + 1), 4, none⟩ = some (.slice q1 ecom.length g1) ∧ (W1.setCell ⟨W.heap.size, o, none⟩ u).cell? ⟨(w.heap.size + 1), 5, none⟩ = some (.slice q2 eomi.length g2) := (fun o u => ⟨((bR1.other hER.out.symm o u).cell 4).trans rfl, ((bR1.other hER.out.symm o u).cell 5).trans rfl⟩); have e12 : W1.cell? ⟨W.heap.size, 12, none⟩ = some (.slice none 0 0) := (by rw [bE1.cell]; rfl); have f12 := bE1.free 12; have lE1 := bE1.lt; have HW1 := Lib.hid hw1; have HBR1 := Lib.hid bR1; have HBE1 := Lib.hid bE1; clear hw1 bR1 bE1)
                | (go_at_call_of 163 (Value.slice q2 eomi.length g2); (with_reducible refine (KI.out _ ?_ eomi _ ?_ ?_ ?_).mono ?_); (· (repeat (first | with_reducible assumption | with_reducible exact Kept.refl _ | with_reducible apply Kept.drew | with_reducible apply Kept.alloc | (with_reducible refine Kept.setCell ?_ (by first | exact Nat.le_refl _ | (dsimp only; omega)) _)))); (· (first | exact owns_kept HO2.out kk1 | exact own_set (owns_kept HO2.out kk1) HBE1.out (by decide) _)); (· exact Nat.le_trans HL.out.2.1 (by omega)); (· exact HL.out.2.2.2); rintro e W2 ⟨v2, rfl, hw2, hk2⟩; obtain ⟨a2, c2, rfl⟩ := owns_form hw2; have kw2 : Kept w W2 := Kept.trans (by (repeat (first | with_reducible assumption | with_reducible exact Kept.refl _ | with_reducible apply Kept.drew | with_reducible apply Kept.alloc | (with_reducible refine Kept.setCell ?_ (by first | exact Nat.le_refl _ | (dsimp only; omega)) _)))) hk2; (first | ((with_reducible have hkx : Kept W1 W2 := hk2); have bE2 := HBE1.out.kept hkx; have bR2 := HBR1.out.kept hkx; have hw12 := owns_kept HW1.out hkx; have hT2 := (HT16.out.kept kk1).kept hkx; have e12' : W2.cell? ⟨W.heap.size, 12, none⟩ = some (.slice none 0 0) := (by rw [bE2.cell]; rfl)) | (have bE2 := (blk_set (o := 12) HBE1.out (.slice a1 ecom.length c1) rfl).kept hk2; have bR2 := (HBR1.out.other hER.out.symm _ _).kept hk2; have hw12 := owns_kept (own_set HW1.out HBE1.out (by decide) _) hk2; have hT2 := ((HT16.out.kept kk1).other (by have := hzW.out; omega) _ _).kept hk2)); have RR2 : W2.cell? ⟨(w.heap.size + 1), 4, none⟩ = some (.slice q1 ecom.length g1) ∧ W2.cell? ⟨(w.heap.size + 1), 5, none⟩ = some (.slice q2 eomi.length g2) := ⟨(by rw [bR2.cell]; rfl), (by rw [bR2.cell]; rfl)⟩; have RR2s : ∀ o u, (W2.setCell ⟨W.heap.size, o, none⟩ u).cell? ⟨(w.heap.size + 1), 4, none⟩ = some (.slice q1 ecom.length g1) ∧ (W2.setCell ⟨W.heap.size, o, none⟩ u).cell? ⟨(w.heap.size + 1), 5, none⟩ = some (.slice q2 eomi.length g2) := (fun o u => ⟨((bR2.other hER.out.symm o u).cell 4).trans rfl, ((bR2.other hER.out.symm o u).cell 5).trans rfl⟩); have RR2ss : ∀ o u o' u', ((W2.setCell ⟨W.heap.size, o, none⟩ u).setCell ⟨W.heap.size, o', none⟩ u').cell? ⟨(w.heap.size + 1), 4, none⟩ = some (.slice q1 ecom.length g1) ∧ ((W2.setCell ⟨W.heap.size, o, none⟩ u).setCell ⟨W.heap.size, o', none⟩ u').cell? ⟨(w.heap.size + 1), 5, none⟩ = some (.slice q2 eomi.length g2) := (fun o u o' u' => ⟨(((bR2.other hER.out.symm o u).other hER.out.symm o' u').cell 4).trans rfl, (((bR2.other hER.out.symm o u).other hER.out.symm o' u').cell 5).trans rfl⟩); have e13 : W2.cell? ⟨W.heap.size, 13, none⟩ = some (.slice none 0 0) := (by rw [bE2.cell]; rfl); have f13 := bE2.free 13; have f12' := bE2.free 12; have lE2 := bE2.lt; have HBE2 := Lib.hid bE2; have HW12 := Lib.hid hw12; have HW2 := Lib.hid hw2; have HT2 := Lib.hid hT2; clear bE2 bR2 hw12 hw2 hT2))
            all_goals (go_wp2_with fail; go_meet)
            all_goals exact ⟨_, _, Lib.hid (blk_set (blk_set HBE2.out _ rfl) _ rfl), Lib.hid ((HT2.out.other (by have := hzW.out; omega) _ _).other (by have := hzW.out; omega) _ _), Lib.hid (owns_base (own_set (own_set HW12.out HBE2.out (by decide) _) (blk_set HBE2.out _ rfl) (by decide) _) k16.size), Lib.hid (owns_base (own_set (own_set HW2.out HBE2.out (by decide) _) (blk_set HBE2.out _ rfl) (by decide) _) kw1.size), Kept.setCell (Kept.setCell kw2 hle _) hle _⟩
          case rest =>
            obtain ⟨v1, v2, HE17, HT17, HV1, HV2, k17⟩ := hcut
            obtain ⟨a1, b1', rfl⟩ := owns_form HV1.out
            obtain ⟨a2, b2', rfl⟩ := owns_form HV2.out
            clear r4 r5 r45 bP16 KI HE16 HR16 HO1 HO2 HT16 k16 lRE
            have lE17 := HE17.out.lt
            have lT17 := HT17.out.lt
            have hne : W.heap.size ≠ w.heap.size := by have := hzW.out; omega
            have hone : Array.all (#[.int .i64 y, .int .i64 dm, .int .i64 dd, .int .i64 ((fst 2 y + (i : Int)) % 7), .string ss, .int .i64 wk, .int .i64 kd, .string pri, .int .i64 rk, .int .i64 s0, .int .i64 s1, .int .i64 s2, .slice a1 ecom.length b1', .slice a2 eomi.length b2'] : Array Value) (fun x => x.oneCell') = true := by simp [Value.oneCell']
            as_aux_lemma =>
              go_wp2_with (first
                | (refine wpList_load_row rfl 56 _ rfl W.heap.size rfl 56 _ _ _ HE17.out Tryz.underlying56 rfl info_ent ?_)
                | (refine wpList_store_row rfl 56 _ _ rfl w.heap.size #[.int .i64 y, .int .i64 dm, .int .i64 dd, .int .i64 ((fst 2 y + (i : Int)) % 7), .string ss, .int .i64 wk, .int .i64 kd, .string pri, .int .i64 rk, .int .i64 s0, .int .i64 s1, .int .i64 s2, .slice a1 ecom.length b1', .slice a2 eomi.length b2'] (by kernel_rfl) (by kernel_rfl) 56 _ HT17.out info_ent rfl hone ?_)
                | fail)
              have hq := HQ.out
              subst hq
              refine bodyPost_ret (results_cell_row Tryz.results108 _ _ w.heap.size _ #[.int .i64 y, .int .i64 dm, .int .i64 dd, .int .i64 ((fst 2 y + (i : Int)) % 7), .string ss, .int .i64 wk, .int .i64 kd, .string pri, .int .i64 rk, .int .i64 s0, .int .i64 s1, .int .i64 s2, .slice a1 ecom.length b1', .slice a2 eomi.length b2'] _ _ rfl (HT17.out.setRow _) Tryz.underlying56 rfl info_ent) rfl ?_
              exact ⟨_, _, rfl, by simpa [idsC] using own_setRow HV1.out HT17.out (by decide) _, by simpa [idsC] using own_setRow HV2.out HT17.out (by decide) _, k17.setRow (Nat.le_refl _) _⟩
end Go.Proofs.YtblaphkaklocfaaGreatDoor

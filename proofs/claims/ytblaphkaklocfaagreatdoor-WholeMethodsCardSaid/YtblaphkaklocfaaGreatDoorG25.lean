/- Contract: ordo.Where. -/
import Derived.Test.YtblaphkaklocfaaGreatDoorG13
import Derived.Test.YtblaphkaklocfaaGreatDoorG24
import Derived.Deep.MidRow
set_option linter.unusedSimpArgs false
set_option linter.unusedVariables false
set_option linter.unusedSectionVars false
namespace Go.Proofs.YtblaphkaklocfaaGreatDoor
open Go.ChangeShapes Go.WideShapes Go.ChangeAt Go.RowKit Go.Maps
set_option maxHeartbeats 8000000
set_option maxRecDepth 20000

theorem ne_list0 {a b : ByteArray} (h : ¬ a = b) : (a.toList == b.toList) = false := by
  rw [ByteArray.toList_eq, ByteArray.toList_eq, beq_eq_false_iff_ne]
  intro e
  exact h (by cases a; cases b; simp at e; rw [e])
/-- An entry that is of a feast, or that names it. -/
def hasE (id : ByteArray) (e : Ent) : Bool := (decide (e.kind ≠ 1) && decide (e.pri = id)) || (e.com.any (fun x => decide (x = id)) || e.omi.any (fun x => decide (x = id)))
def whereC (l : List Ent) (id : ByteArray) : Option Day3 := (l.find? (hasE id)).map Ent.date
def whereV (o : Option Day3) : Value := match o with
  | some d => .tuple #[.agg #[.int .i64 d.y, .int .i64 d.m, .int .i64 d.d], .bool true]
  | none => .tuple #[.agg #[.int .i64 0, .int .i64 0, .int .i64 0], .bool false]
theorem ents_at {w : World} {base n c : Nat} {o : Option Addr} {l : List EV} (h : w.ownsRow base 56 14 (.slice o n c) l.length (flatE l)) (h1 : 1 ≤ l.length) :
    ∃ g, o = some ⟨g, 0, none⟩ ∧ n = l.length ∧ base ≤ g ∧ g < w.heap.size ∧ ∀ k, k < l.length → w.rangeAt g (k * 14) (EV.vals l[k]!) := by
  have hc := h
  obtain ⟨_, ⟨_, h0⟩ | ⟨g, cap, cur, e, hb, hh, _⟩⟩ := h
  · omega
  · simp only [Value.slice.injEq] at e
    obtain ⟨rfl, rfl, rfl⟩ := e
    refine ⟨g, rfl, rfl, hb, (Array.getElem?_eq_some_iff.1 hh).1, fun k hk i u hu => ?_⟩
    have q := hc.cells (g := g) rfl _ _ (flatE_at l k hk i u hu)
    simpa [Addr.add_lit] using q
theorem where_hit (l : List EV) (j : Nat) (id : ByteArray) (h : whereC ((l.take j).map Prod.fst) id = none) (hj : j < l.length) (he : hasE id (l[j]!).1 = true) : whereC (l.map Prod.fst) id = some (l[j]!).1.date := by
  unfold whereC at *
  rw [Option.map_eq_none_iff, List.find?_eq_none] at h
  have e : l.map Prod.fst = (l.take j).map Prod.fst ++ (l.drop j).map Prod.fst := by rw [← List.map_append, List.take_append_drop]
  rw [e, List.find?_append, List.find?_eq_none.2 h, Option.none_or, List.drop_eq_getElem_cons hj, List.map_cons, List.find?_cons_of_pos (by rw [getElem!_pos l j hj] at he; exact he), getElem!_pos l j hj]
  rfl
theorem where_miss (l : List EV) (j : Nat) (id : ByteArray) (h : whereC ((l.take j).map Prod.fst) id = none) (hj : j < l.length) (he : hasE id (l[j]!).1 = false) : whereC ((l.take (j + 1)).map Prod.fst) id = none := by
  unfold whereC at *
  rw [Option.map_eq_none_iff, List.find?_eq_none] at h ⊢
  intro x hx
  rw [List.take_add_one, List.getElem?_eq_getElem hj, List.map_append] at hx
  rcases List.mem_append.1 hx with hx | hx
  · exact h x hx
  · rw [getElem!_pos l j hj] at he
    simp at hx
    rw [hx, he]
    simp
theorem Cont_ok (l : List ByteArray) (v : Value) (b : Nat) (id : ByteArray) (w : World) (h : w.ownsRow b 9 1 v l.length (strV l)) (hl : l.length ≤ 100000) :
    Calls Tryz.prog 192 #[v, .string id] w fun e w' => e = .returned (.bool (l.any (fun x => decide (x = id)))) ∧ w' = w := by
  have hc := h
  obtain ⟨_, ⟨rfl, h0⟩ | ⟨g, cap, cur, rfl, hb, hh, _⟩⟩ := h
  · have : l = [] := List.length_eq_zero_iff.1 h0
    subst this
    exact Tryz.slices_Contains_string_empty _ _ id w
  · have := Tryz.slices_Contains_string g 0 l.length cap l id w (Nat.le_refl _) (by omega) (fun j hj => by
      have q := hc.cells (g := g) rfl j (.string l[j]) (by simp [strV, hj])
      rw [Addr.add_lit, Nat.zero_add] at q
      rw [Nat.zero_add, q]
      simp [hj])
    rw [List.take_length] at this
    have e : Lib.containsS l id = l.any (fun x => decide (x = id)) := by
      rw [Bool.eq_iff_iff, Lib.containsS_iff, List.any_eq_true]
      simp
    rw [e] at this
    exact this
theorem hit_end (wr w : World) (o : Obj) (f0 f1 f2 : Int) {a : Act} (kwr : Kept w wr) (hb : Blk wr (w.heap.size + 1) #[.int .i64 0, .int .i64 0, .int .i64 0] 29)
    (h5 : a.tmps.getD 5 undef = .bool true) (h4 : a.tmps.getD 4 undef = .pointer (some ⟨w.heap.size + 1, 0, none⟩)) (hd : a.defers = []) :
    bodyPost Tryz.prog Tryz.f138 (fun e w' => e = .returned (whereV (some ⟨f0, f1, f2⟩)) ∧ Kept w w') Exit.ret a ((((wr.setCell ⟨w.heap.size + 1, 0, none⟩ (.int .i64 f0)).setCell ⟨w.heap.size + 1, 1, none⟩ (.int .i64 f1)).setCell ⟨w.heap.size + 1, 2, none⟩ (.int .i64 f2)).alloc o) := by
  have B1 : Blk (wr.setCell ⟨w.heap.size + 1, 0, none⟩ (.int .i64 f0)) (w.heap.size + 1) #[.int .i64 f0, .int .i64 0, .int .i64 0] 29 := blk_set hb _ rfl
  have B2 : Blk ((wr.setCell ⟨w.heap.size + 1, 0, none⟩ (.int .i64 f0)).setCell ⟨w.heap.size + 1, 1, none⟩ (.int .i64 f1)) (w.heap.size + 1) #[.int .i64 f0, .int .i64 f1, .int .i64 0] 29 := blk_set B1 _ rfl
  have B3 : Blk (((wr.setCell ⟨w.heap.size + 1, 0, none⟩ (.int .i64 f0)).setCell ⟨w.heap.size + 1, 1, none⟩ (.int .i64 f1)).setCell ⟨w.heap.size + 1, 2, none⟩ (.int .i64 f2)) (w.heap.size + 1) #[.int .i64 f0, .int .i64 f1, .int .i64 f2] 29 := blk_set B2 _ rfl
  have B4 := B3.alloc o
  have q0 := B4.cell 0
  have q1 := B4.cell 1
  have q2 := B4.cell 2
  simp at h5 h4
  refine bodyPost_ret (v := whereV (some ⟨f0, f1, f2⟩)) (by simp [results, Tryz.results138, go_sem, h4, h5, q0, q1, q2, whereV]) hd ⟨rfl, ?_⟩
  exact Kept.alloc (Kept.setCell (Kept.setCell (Kept.setCell kwr (by simp) _) (by simp) _) (by simp) _) _
theorem miss_end (wr w : World) {a : Act} (kwr : Kept w wr) (hb : Blk wr (w.heap.size + 1) #[.int .i64 0, .int .i64 0, .int .i64 0] 29)
    (h5 : a.tmps.getD 5 undef = .bool false) (h4 : a.tmps.getD 4 undef = .pointer (some ⟨w.heap.size + 1, 0, none⟩)) (hd : a.defers = []) :
    bodyPost Tryz.prog Tryz.f138 (fun e w' => e = .returned (whereV none) ∧ Kept w w') Exit.ret a ((((wr.setCell ⟨w.heap.size + 1, 0, none⟩ (.int .i64 0)).setCell ⟨w.heap.size + 1, 1, none⟩ (.int .i64 0)).setCell ⟨w.heap.size + 1, 2, none⟩ (.int .i64 0))) := by
  have B1 : Blk (wr.setCell ⟨w.heap.size + 1, 0, none⟩ (.int .i64 0)) (w.heap.size + 1) #[.int .i64 0, .int .i64 0, .int .i64 0] 29 := blk_set hb _ rfl
  have B2 : Blk ((wr.setCell ⟨w.heap.size + 1, 0, none⟩ (.int .i64 0)).setCell ⟨w.heap.size + 1, 1, none⟩ (.int .i64 0)) (w.heap.size + 1) #[.int .i64 0, .int .i64 0, .int .i64 0] 29 := blk_set B1 _ rfl
  have B3 : Blk (((wr.setCell ⟨w.heap.size + 1, 0, none⟩ (.int .i64 0)).setCell ⟨w.heap.size + 1, 1, none⟩ (.int .i64 0)).setCell ⟨w.heap.size + 1, 2, none⟩ (.int .i64 0)) (w.heap.size + 1) #[.int .i64 0, .int .i64 0, .int .i64 0] 29 := blk_set B2 _ rfl
  have q0 := B3.cell 0
  have q1 := B3.cell 1
  have q2 := B3.cell 2
  simp at h5 h4
  refine bodyPost_ret (v := whereV none) (by simp [results, Tryz.results138, go_sem, h4, h5, q0, q1, q2, whereV]) hd ⟨rfl, ?_⟩
  exact (Kept.setCell (Kept.setCell (Kept.setCell kwr (by simp) _) (by simp) _) (by simp) _)
theorem Where_ok (y : Int) (ve : Value) (le : List EV) (id : ByteArray) (b0 : Nat) (w : World) (hE : EntSt b0 w ve le) (h1 : 1 ≤ le.length) (h2 : le.length ≤ 1000) (hl : ∀ x ∈ le, x.1.com.length ≤ 100000 ∧ x.1.omi.length ≤ 100000) :
    Calls Tryz.prog 138 #[.agg #[.int .i64 y, ve], .string id] w fun e w' => e = .returned (whereV (whereC (le.map Prod.fst) id)) ∧ Kept w w' := by
  obtain ⟨oe, ce, rfl⟩ := owns_form hE.row
  obtain ⟨g, rfl, -, hbg, hlg, hcg⟩ := ents_at hE.row h1
  have HE := Lib.hid hE
  have HCG := Lib.hid hcg
  have HL := Lib.hid hl
  obtain ⟨res, hres⟩ : ∃ x, x = whereC (le.map Prod.fst) id := ⟨_, rfl⟩
  rw [← hres]
  have HR := Lib.hid hres
  clear hE hcg hl hres
  go_enter Tryz.func138, Tryz.ntmps138
  go_wp2_with fail
  obtain ⟨W0, hW0⟩ : ∃ x, x = (w.alloc (.cells #[.int .i64 y, .slice (some ⟨g, 0, none⟩) le.length ce] 49)).alloc (.cells #[.int .i64 0, .int .i64 0, .int .i64 0] 29) := ⟨_, rfl⟩
  rw [← hW0]
  have k0 : Kept w W0 := by rw [hW0]; exact ((Kept.refl w).alloc _).alloc _
  have bR : Hid (Blk W0 (w.heap.size + 1) #[.int .i64 0, .int .i64 0, .int .i64 0] 29) := (show Blk _ _ _ _ from by
    rw [hW0]
    have := Blk.new (w.alloc (.cells #[.int .i64 y, .slice (some ⟨g, 0, none⟩) le.length ce] 49)) #[.int .i64 0, .int .i64 0, .int .i64 0] 29
    simpa using this)
  clear hW0
  go_loopw [11] (fun ir wr => ∃ j : Nat, j ≤ le.length ∧ ir = .int .i64 j ∧ Hid (whereC ((le.take j).map Prod.fst) id = none) ∧ Kept W0 wr) (fun ir _ => (le.length - intOf ir).toNat)
  case atStart => exact ⟨0, by omega, rfl, Lib.hid rfl, Kept.refl _⟩
  case round =>
    obtain ⟨j, hj, rfl, HN, kr⟩ := hrel
    have BR := Lib.hid (bR.out.kept kr)
    by_cases hlt : j < le.length
    · have hjz : (j : Int) < (le.length : Int) := by omega
      have hr := HCG.out j hlt
      have hrow := HE.out.rows le[j]! (by rw [getElem!_pos le j hlt]; exact List.getElem_mem hlt)
      have hr2 : Hid (wr.rangeAt g (j * 14) (EV.vals le[j]!)) := (show World.rangeAt _ _ _ _ from fun a v hv => ((k0.trans kr).cell g _ hlg).trans (hr a v hv))
      clear hr
      have hmem : le[j]! ∈ le := by rw [getElem!_pos le j hlt]; exact List.getElem_mem hlt
      have hbd := HL.out _ hmem
      have HH := Lib.hid (fun h => HR.out.trans (where_hit le j id HN.out hlt h))
      have HM := Lib.hid (fun h => where_miss le j id HN.out hlt h)
      generalize le[j]! = x at *
      obtain ⟨⟨⟨f0, f1, f2⟩, wd, ss, wk, kd, pri, rk, ⟨s0, s1, s2⟩, com, omi⟩, u1, u2⟩ := x
      obtain ⟨x1, y1, e1⟩ := owns_form hrow.r1
      obtain ⟨x2, y2, e2⟩ := owns_form hrow.r2
      dsimp only at e1 e2
      subst e1 e2
      have hE0 : EV.vals ((⟨⟨f0, f1, f2⟩, wd, ss, wk, kd, pri, rk, ⟨s0, s1, s2⟩, com, omi⟩, (.slice x1 com.length y1), (.slice x2 omi.length y2)) : EV) = [.int .i64 f0, .int .i64 f1, .int .i64 f2, .int .i64 wd, .string ss, .int .i64 wk, .int .i64 kd, .string pri, .int .i64 rk, .int .i64 s0, .int .i64 s1, .int .i64 s2, .slice x1 com.length y1, .slice x2 omi.length y2] := rfl
      rw [hE0] at hr2
      have KC1 := Lib.hid (fun w' (q : Kept w w') => Cont_ok com (.slice x1 com.length y1) b0 id w' (owns_kept hrow.r1 q) hbd.1)
      have KC2 := Lib.hid (fun w' (q : Kept w w') => Cont_ok omi (.slice x2 omi.length y2) b0 id w' (owns_kept hrow.r2 q) hbd.2)
      have HX : Hid (hasE id ⟨⟨f0, f1, f2⟩, wd, ss, wk, kd, pri, rk, ⟨s0, s1, s2⟩, com, omi⟩ = ((decide (kd ≠ 1) && decide (pri = id)) || (com.any (fun x => decide (x = id)) || omi.any (fun x => decide (x = id))))) := (show _ = _ from rfl)
      dsimp only at HH HM
      generalize hasE id ⟨⟨f0, f1, f2⟩, wd, ss, wk, kd, pri, rk, ⟨s0, s1, s2⟩, com, omi⟩ = hb at *
      generalize com.any (fun x => decide (x = id)) = bc at *
      generalize omi.any (fun x => decide (x = id)) = bo at *
      have r0 : wr.cell? ⟨w.heap.size + 1, 0, none⟩ = some (.int .i64 0) := by rw [BR.out.cell]; rfl
      have r1 : wr.cell? ⟨w.heap.size + 1, 1, none⟩ = some (.int .i64 0) := by rw [BR.out.cell]; rfl
      have r2 : wr.cell? ⟨w.heap.size + 1, 2, none⟩ = some (.int .i64 0) := by rw [BR.out.cell]; rfl
      have g0 := BR.out.free 0
      have g1 := BR.out.free 1
      have g2 := BR.out.free 2
      have lR := BR.out.lt
      have kwr : Kept w wr := k0.trans kr
      by_cases hk : kd = 1
      · have hk2 : (kd != 1) = false := by simpa using hk
        cases bc with
        | true => as_aux_lemma => (obtain rfl := HH.out (by rw [HX.out]; simp [hk]); (go_wp2_with (first | (refine wpList_load_mid rfl 56 _ rfl g (j * 14) rfl _ _ hr2.out Tryz.underlying56 rfl info_ent ?_) | (go_at_call_of 192 (Value.slice x1 com.length y1); (with_reducible refine (KC1.out _ ?_).mono ?_); (· (repeat (first | with_reducible assumption | with_reducible exact Kept.refl _ | with_reducible apply Kept.drew | with_reducible apply Kept.alloc | (with_reducible refine Kept.setCell ?_ (by first | exact Nat.le_refl _ | (dsimp only; omega)) _)))); rintro e w2 ⟨rfl, rfl⟩) | (go_at_call_of 192 (Value.slice x2 omi.length y2); (with_reducible refine (KC2.out _ ?_).mono ?_); (· (repeat (first | with_reducible assumption | with_reducible exact Kept.refl _ | with_reducible apply Kept.drew | with_reducible apply Kept.alloc | (with_reducible refine Kept.setCell ?_ (by first | exact Nat.le_refl _ | (dsimp only; omega)) _)))); rintro e w2 ⟨rfl, rfl⟩) | fail)); refine hit_end wr w _ f0 f1 f2 kwr BR.out ?_ ?_ ?_ <;> rfl)
        | false =>
          cases bo with
          | true => as_aux_lemma => (obtain rfl := HH.out (by rw [HX.out]; simp [hk]); (go_wp2_with (first | (refine wpList_load_mid rfl 56 _ rfl g (j * 14) rfl _ _ hr2.out Tryz.underlying56 rfl info_ent ?_) | (go_at_call_of 192 (Value.slice x1 com.length y1); (with_reducible refine (KC1.out _ ?_).mono ?_); (· (repeat (first | with_reducible assumption | with_reducible exact Kept.refl _ | with_reducible apply Kept.drew | with_reducible apply Kept.alloc | (with_reducible refine Kept.setCell ?_ (by first | exact Nat.le_refl _ | (dsimp only; omega)) _)))); rintro e w2 ⟨rfl, rfl⟩) | (go_at_call_of 192 (Value.slice x2 omi.length y2); (with_reducible refine (KC2.out _ ?_).mono ?_); (· (repeat (first | with_reducible assumption | with_reducible exact Kept.refl _ | with_reducible apply Kept.drew | with_reducible apply Kept.alloc | (with_reducible refine Kept.setCell ?_ (by first | exact Nat.le_refl _ | (dsimp only; omega)) _)))); rintro e w2 ⟨rfl, rfl⟩) | fail)); refine hit_end wr w _ f0 f1 f2 kwr BR.out ?_ ?_ ?_ <;> rfl)
          | false => as_aux_lemma => (have HZ := Lib.hid (HM.out (by rw [HX.out]; simp [hk])); (go_wp2_with (first | (refine wpList_load_mid rfl 56 _ rfl g (j * 14) rfl _ _ hr2.out Tryz.underlying56 rfl info_ent ?_) | (go_at_call_of 192 (Value.slice x1 com.length y1); (with_reducible refine (KC1.out _ ?_).mono ?_); (· (repeat (first | with_reducible assumption | with_reducible exact Kept.refl _ | with_reducible apply Kept.drew | with_reducible apply Kept.alloc | (with_reducible refine Kept.setCell ?_ (by first | exact Nat.le_refl _ | (dsimp only; omega)) _)))); rintro e w2 ⟨rfl, rfl⟩) | (go_at_call_of 192 (Value.slice x2 omi.length y2); (with_reducible refine (KC2.out _ ?_).mono ?_); (· (repeat (first | with_reducible assumption | with_reducible exact Kept.refl _ | with_reducible apply Kept.drew | with_reducible apply Kept.alloc | (with_reducible refine Kept.setCell ?_ (by first | exact Nat.le_refl _ | (dsimp only; omega)) _)))); rintro e w2 ⟨rfl, rfl⟩) | fail)); exact ⟨⟨j + 1, by omega, by go_num, HZ, kr.trans (by repeat (first | with_reducible exact Kept.refl _ | with_reducible assumption | with_reducible refine Kept.drew ?_ | with_reducible refine Kept.drewN ?_ _ | with_reducible refine Kept.alloc ?_ _ | (with_reducible refine Kept.setCell ?_ (by first | exact Nat.le_refl _ | omega | (simp; done) | (simp; omega)) _) | (with_reducible refine Kept.trans ?_ (by with_reducible assumption))))⟩, by simp [intOf]; omega⟩)
      · have hk2 : (kd != 1) = true := by simpa using hk
        by_cases hp : pri = id
        · have hp2 : (pri.toList == id.toList) = true := by rw [hp]; exact beq_self_eq_true _
          as_aux_lemma => (obtain rfl := HH.out (by rw [HX.out]; simp [hk, hp]); (go_wp2_with (first | (refine wpList_load_mid rfl 56 _ rfl g (j * 14) rfl _ _ hr2.out Tryz.underlying56 rfl info_ent ?_) | (go_at_call_of 192 (Value.slice x1 com.length y1); (with_reducible refine (KC1.out _ ?_).mono ?_); (· (repeat (first | with_reducible assumption | with_reducible exact Kept.refl _ | with_reducible apply Kept.drew | with_reducible apply Kept.alloc | (with_reducible refine Kept.setCell ?_ (by first | exact Nat.le_refl _ | (dsimp only; omega)) _)))); rintro e w2 ⟨rfl, rfl⟩) | (go_at_call_of 192 (Value.slice x2 omi.length y2); (with_reducible refine (KC2.out _ ?_).mono ?_); (· (repeat (first | with_reducible assumption | with_reducible exact Kept.refl _ | with_reducible apply Kept.drew | with_reducible apply Kept.alloc | (with_reducible refine Kept.setCell ?_ (by first | exact Nat.le_refl _ | (dsimp only; omega)) _)))); rintro e w2 ⟨rfl, rfl⟩) | fail)); refine hit_end wr w _ f0 f1 f2 kwr BR.out ?_ ?_ ?_ <;> rfl)
        · have hp2 := ne_list0 hp
          cases bc with
          | true => as_aux_lemma => (obtain rfl := HH.out (by rw [HX.out]; simp [hk, hp]); (go_wp2_with (first | (refine wpList_load_mid rfl 56 _ rfl g (j * 14) rfl _ _ hr2.out Tryz.underlying56 rfl info_ent ?_) | (go_at_call_of 192 (Value.slice x1 com.length y1); (with_reducible refine (KC1.out _ ?_).mono ?_); (· (repeat (first | with_reducible assumption | with_reducible exact Kept.refl _ | with_reducible apply Kept.drew | with_reducible apply Kept.alloc | (with_reducible refine Kept.setCell ?_ (by first | exact Nat.le_refl _ | (dsimp only; omega)) _)))); rintro e w2 ⟨rfl, rfl⟩) | (go_at_call_of 192 (Value.slice x2 omi.length y2); (with_reducible refine (KC2.out _ ?_).mono ?_); (· (repeat (first | with_reducible assumption | with_reducible exact Kept.refl _ | with_reducible apply Kept.drew | with_reducible apply Kept.alloc | (with_reducible refine Kept.setCell ?_ (by first | exact Nat.le_refl _ | (dsimp only; omega)) _)))); rintro e w2 ⟨rfl, rfl⟩) | fail)); refine hit_end wr w _ f0 f1 f2 kwr BR.out ?_ ?_ ?_ <;> rfl)
          | false =>
            cases bo with
            | true => as_aux_lemma => (obtain rfl := HH.out (by rw [HX.out]; simp [hk, hp]); (go_wp2_with (first | (refine wpList_load_mid rfl 56 _ rfl g (j * 14) rfl _ _ hr2.out Tryz.underlying56 rfl info_ent ?_) | (go_at_call_of 192 (Value.slice x1 com.length y1); (with_reducible refine (KC1.out _ ?_).mono ?_); (· (repeat (first | with_reducible assumption | with_reducible exact Kept.refl _ | with_reducible apply Kept.drew | with_reducible apply Kept.alloc | (with_reducible refine Kept.setCell ?_ (by first | exact Nat.le_refl _ | (dsimp only; omega)) _)))); rintro e w2 ⟨rfl, rfl⟩) | (go_at_call_of 192 (Value.slice x2 omi.length y2); (with_reducible refine (KC2.out _ ?_).mono ?_); (· (repeat (first | with_reducible assumption | with_reducible exact Kept.refl _ | with_reducible apply Kept.drew | with_reducible apply Kept.alloc | (with_reducible refine Kept.setCell ?_ (by first | exact Nat.le_refl _ | (dsimp only; omega)) _)))); rintro e w2 ⟨rfl, rfl⟩) | fail)); refine hit_end wr w _ f0 f1 f2 kwr BR.out ?_ ?_ ?_ <;> rfl)
            | false => as_aux_lemma => (have HZ := Lib.hid (HM.out (by rw [HX.out]; simp [hk, hp])); (go_wp2_with (first | (refine wpList_load_mid rfl 56 _ rfl g (j * 14) rfl _ _ hr2.out Tryz.underlying56 rfl info_ent ?_) | (go_at_call_of 192 (Value.slice x1 com.length y1); (with_reducible refine (KC1.out _ ?_).mono ?_); (· (repeat (first | with_reducible assumption | with_reducible exact Kept.refl _ | with_reducible apply Kept.drew | with_reducible apply Kept.alloc | (with_reducible refine Kept.setCell ?_ (by first | exact Nat.le_refl _ | (dsimp only; omega)) _)))); rintro e w2 ⟨rfl, rfl⟩) | (go_at_call_of 192 (Value.slice x2 omi.length y2); (with_reducible refine (KC2.out _ ?_).mono ?_); (· (repeat (first | with_reducible assumption | with_reducible exact Kept.refl _ | with_reducible apply Kept.drew | with_reducible apply Kept.alloc | (with_reducible refine Kept.setCell ?_ (by first | exact Nat.le_refl _ | (dsimp only; omega)) _)))); rintro e w2 ⟨rfl, rfl⟩) | fail)); exact ⟨⟨j + 1, by omega, by go_num, HZ, kr.trans (by repeat (first | with_reducible exact Kept.refl _ | with_reducible assumption | with_reducible refine Kept.drew ?_ | with_reducible refine Kept.drewN ?_ _ | with_reducible refine Kept.alloc ?_ _ | (with_reducible refine Kept.setCell ?_ (by first | exact Nat.le_refl _ | omega | (simp; done) | (simp; omega)) _) | (with_reducible refine Kept.trans ?_ (by with_reducible assumption))))⟩, by simp [intOf]; omega⟩)
    · obtain rfl : j = le.length := by omega
      have hn : res = none := by rw [HR.out]; have := HN.out; rw [List.take_length] at this; exact this
      subst hn
      have r0 : wr.cell? ⟨w.heap.size + 1, 0, none⟩ = some (.int .i64 0) := by rw [BR.out.cell]; rfl
      have r1 : wr.cell? ⟨w.heap.size + 1, 1, none⟩ = some (.int .i64 0) := by rw [BR.out.cell]; rfl
      have r2 : wr.cell? ⟨w.heap.size + 1, 2, none⟩ = some (.int .i64 0) := by rw [BR.out.cell]; rfl
      have g0 := BR.out.free 0
      have g1 := BR.out.free 1
      have g2 := BR.out.free 2
      have lR := BR.out.lt
      go_wp2
      refine miss_end wr w (k0.trans kr) BR.out ?_ ?_ ?_ <;> rfl
end Go.Proofs.YtblaphkaklocfaaGreatDoor

/- Contracts and plain lemmas: As0, As1, Asm, Bui. -/
import Derived.Test.YtblaphkaklocfaaGreatDoorG22
import Derived.Test.YtblaphkaklocfaaGreatDoorG23
import Derived.Deep.RegionLaw
import Derived.Deep.AppendLies
set_option linter.unusedSimpArgs false
set_option linter.unusedVariables false
set_option linter.unusedSectionVars false
/- Plain: the entries in memory: a row of entries, each with two rows of strings of the call's own. -/
namespace Go.Proofs.YtblaphkaklocfaaGreatDoor
open Go.ChangeShapes Go.WideShapes Go.ChangeAt Go.RowKit Go.Maps
set_option maxHeartbeats 1000000
set_option maxRecDepth 20000

theorem info_entry : (Tryz.prog.info? 56).map (fun i => (i.zero, i.size, i.bytes)) = some (some (.agg #[.int .i64 0, .int .i64 0, .int .i64 0, .int .i64 0, .string ⟨#[]⟩, .int .i64 0, .int .i64 0, .string ⟨#[]⟩, .int .i64 0, .int .i64 0, .int .i64 0, .int .i64 0, .slice none 0 0, .slice none 0 0]), 14, 160) := by kernel_rfl
/-- An entry with the values of its two lists. -/
abbrev EV := Ent × (Value × Value)
def EV.vals (x : EV) : List Value := [.int .i64 x.1.date.y, .int .i64 x.1.date.m, .int .i64 x.1.date.d, .int .i64 x.1.wd, .string x.1.sea, .int .i64 x.1.week, .int .i64 x.1.kind, .string x.1.pri, .int .i64 x.1.rank, .int .i64 x.1.src.y, .int .i64 x.1.src.m, .int .i64 x.1.src.d, x.2.1, x.2.2]
def flatE (l : List EV) : List Value := l.flatMap EV.vals
theorem flatE_snoc (l : List EV) (x : EV) : flatE (l ++ [x]) = flatE l ++ EV.vals x := by simp [flatE]
theorem flatE_len (l : List EV) : (flatE l).length = l.length * 14 := by
  induction l with
  | nil => rfl
  | cons x t ih => 
    rw [show flatE (x :: t) = EV.vals x ++ flatE t from rfl, List.length_append, ih]
    simp [EV.vals]; omega
structure ERows (base : Nat) (w : World) (x : EV) : Prop where
  r1 : w.ownsRow base 9 1 x.2.1 x.1.com.length (strV x.1.com)
  r2 : w.ownsRow base 9 1 x.2.2 x.1.omi.length (strV x.1.omi)
theorem ERows.kept {base : Nat} {w w' : World} {x : EV} (h : ERows base w x) (k : Kept w w') : ERows base w' x := ⟨owns_kept h.r1 k, owns_kept h.r2 k⟩
theorem ERows.base {b b' : Nat} {w : World} {x : EV} (h : ERows b w x) (hb : b' ≤ b) : ERows b' w x := ⟨owns_base h.r1 hb, owns_base h.r2 hb⟩
theorem ERows.grown {base : Nat} {w w' : World} {x : EV} {b' n' s' : Nat} {e' : TypeId} {v' : Value} {xs' : List Value} (h : ERows base w x) (h' : w.ownsRow b' e' s' v' n' xs') (hne : 9 ≠ e') (g : w.grownBy w' v'.ownBlock) : ERows base w' x :=
  ⟨owns_grown h.r1 g (owns_apart2 h.r1 h' hne), owns_grown h.r2 g (owns_apart2 h.r2 h' hne)⟩
theorem ERows.set {base R o : Nat} {t : TypeId} {cs : Array Value} {w : World} {x : EV} (h : ERows base w x) (hk : Blk w R cs t) (hne : t ≠ 9) (u : Value) : ERows base (w.setCell ⟨R, o, none⟩ u) x :=
  ⟨own_set h.r1 hk hne u, own_set h.r2 hk hne u⟩
structure EntSt (base : Nat) (w : World) (v : Value) (l : List EV) : Prop where
  row : w.ownsRow base 56 14 v l.length (flatE l)
  rows : ∀ x ∈ l, ERows base w x
theorem EntSt.kept {base : Nat} {w w' : World} {v : Value} {l : List EV} (h : EntSt base w v l) (k : Kept w w') : EntSt base w' v l := ⟨owns_kept h.row k, fun x hx => (h.rows x hx).kept k⟩
theorem EntSt.base {b b' : Nat} {w : World} {v : Value} {l : List EV} (h : EntSt b w v l) (hb : b' ≤ b) : EntSt b' w v l := ⟨owns_base h.row hb, fun x hx => (h.rows x hx).base hb⟩
theorem EntSt.nil (base : Nat) (w : World) : EntSt base w (.slice none 0 0) [] := ⟨World.ownsRow_nil _ _ _ _, fun x hx => by simp at hx⟩
theorem EntSt.set {base R o : Nat} {t : TypeId} {cs : Array Value} {w : World} {v : Value} {l : List EV} (h : EntSt base w v l) (hk : Blk w R cs t) (h1 : t ≠ 9) (h2 : t ≠ 56) (u : Value) : EntSt base (w.setCell ⟨R, o, none⟩ u) v l :=
  ⟨own_set h.row hk h2 u, fun x hx => (h.rows x hx).set hk h1 u⟩
theorem EntSt.step {base : Nat} {w w1 : World} {v v' : Value} {l : List EV} (h : EntSt base w v l) (x : EV) (hx : ERows base w x) (hrow : w1.ownsRow base 56 14 v' (l.length + 1) (flatE l ++ EV.vals x)) (g : w.grownBy w1 v.ownBlock) : EntSt base w1 v' (l ++ [x]) := by
  have hne : 9 ≠ 56 := by decide
  refine ⟨by rw [List.length_append, flatE_snoc]; exact hrow, fun y hy => ?_⟩
  rcases List.mem_append.1 hy with hy | hy
  · exact (h.rows y hy).grown h.row hne g
  · rw [List.mem_singleton.1 hy]
    exact hx.grown h.row hne g
/-- The days are not touched by what changes another block alone. -/
theorem RowsOK.grownB {base : Nat} {w w' : World} {x : RV} {R : Nat} {cs : Array Value} {t : TypeId} (h : RowsOK base w x) (hk : Blk w R cs t) (hne : t ≠ 3) (g : w.grownBy w' (some R)) : RowsOK base w' x :=
  ⟨owns_grown h.r1 g (.inr (owns_not_blk h.r1 hk hne)), owns_grown h.r2 g (.inr (owns_not_blk h.r2 hk hne)), owns_grown h.r3 g (.inr (owns_not_blk h.r3 hk hne))⟩
theorem DaySt.grownB {base : Nat} {w w' : World} {v : Value} {l : List RV} {R : Nat} {cs : Array Value} {t : TypeId} (h : DaySt base w v l) (hk : Blk w R cs t) (h1 : t ≠ 3) (h2 : t ≠ 168) (g : w.grownBy w' (some R)) : DaySt base w' v l :=
  ⟨owns_grown h.row g (.inr (owns_not_blk h.row hk h2)), fun x hx => (h.rows x hx).grownB hk h1 g⟩
theorem flatE_at (l : List EV) (k : Nat) (h : k < l.length) : ∀ i u, (EV.vals l[k]!)[i]? = some u → (flatE l)[k * 14 + i]? = some u := by
  induction l generalizing k with
  | nil => simp at h
  | cons x s ih =>
    intro i u hu
    have hi : i < 14 := by
      have := (List.getElem?_eq_some_iff.1 hu).1
      simpa [EV.vals] using this
    have e : flatE (x :: s) = EV.vals x ++ flatE s := rfl
    rw [e]
    cases k with
    | zero =>
      rw [List.getElem?_append_left (by simp [EV.vals]; omega)]
      simpa using hu
    | succ k =>
      rw [List.getElem?_append_right (by simp [EV.vals]; omega)]
      have h2 := ih k (by simpa using h) i u (by simpa using hu)
      have e2 : (k + 1) * 14 + i - (EV.vals x).length = k * 14 + i := by simp [EV.vals]; omega
      rw [e2]
      exact h2
/-- What entries are made of a list of results. -/
def entsR (L M : List Rec) (y : Int) (T : List Mov) (l : List RV) (k : Nat) : List Ent := (List.range k).map (fun i : Nat => entC L M y (fst 2 y) T i ((l[i]!).1))
theorem entsR_succ (L M : List Rec) (y : Int) (T : List Mov) (l : List RV) (k : Nat) : entsR L M y T l (k + 1) = entsR L M y T l k ++ [entC L M y (fst 2 y) T k ((l[k]!).1)] := by
  simp [entsR, List.range_succ]
theorem entsR_all (L M : List Rec) (y : Int) (T : List Mov) (l : List RV) (h : l.map Prod.fst = resList L M y) : entsR L M y T l (yearLen y) = entsC L M y T := by
  unfold entsR entsC
  apply List.map_congr_left
  intro i hi
  have hi2 : i < yearLen y := List.mem_range.1 hi
  have hl : l.length = yearLen y := by have := congrArg List.length h; simpa [resList_len] using this
  rw [← h, getElem!_pos l i (by omega), getElem!_pos (l.map Prod.fst) i (by simp; omega)]
  simp
end Go.Proofs.YtblaphkaklocfaaGreatDoor
/- Plain: results and moves are within their bounds. -/
namespace Go.Proofs.YtblaphkaklocfaaGreatDoor
open Go.ChangeShapes Go.WideShapes Go.ChangeAt Go.RowKit Go.Maps
set_option maxHeartbeats 1000000
set_option maxRecDepth 20000

theorem sortC_perm (l : List Cand) : (sortC l).Perm l := (List.reverse_perm _).trans (isortR_perm precC l)
theorem pick_mem {M : List Rec} {pol : Int} {t : List Cand} {i : Nat} (h : i ∈ pick M pol t) : ∃ x ∈ t, x.kind = 2 ∧ x.idx = i ∧ polOf M x.idx = pol := by
  unfold pick at h
  obtain ⟨x, hx, rfl⟩ := List.mem_map.1 h
  obtain ⟨h1, h2⟩ := List.mem_filter.1 hx
  simp only [Bool.and_eq_true, decide_eq_true_eq] at h2
  exact ⟨x, h1, h2.1, rfl, h2.2⟩
theorem pick_len (M : List Rec) (pol : Int) (t : List Cand) : (pick M pol t).length ≤ t.length := by
  unfold pick
  rw [List.length_map]
  exact List.length_filter_le _ _
theorem res_parts {f : Int} {L M : List Rec} (hB : catB f L M = true) (y first day : Int) : ResOK M (resolveC M (candsAt L M y first day)) ∧ ∀ i ∈ (resolveC M (candsAt L M y first day)).imp, i < M.length := by
  have hidx := cands_idx hB y first day
  have hlen : (candsAt L M y first day).length ≤ 1000 := by
    have := propF_len day y M 0
    have h4 := (catB_parts hB).2.2.1
    show (_ :: _).length ≤ 1000
    simp only [List.length_cons]
    omega
  generalize candsAt L M y first day = l at *
  have hp := sortC_perm l
  have hl := hp.length_eq
  have hm : ∀ x ∈ sortC l, x.kind = 2 → x.idx < M.length := fun x hx hk => (hidx x (hp.mem_iff.1 hx) hk).1
  unfold resolveC
  split
  · exact ⟨⟨fun h => by simp [default] at h, by simp [default], by simp [default], by simp [default], by simp [default], by simp [default]⟩, by simp [default]⟩
  · rename_i p t he
    rw [he] at hm hl
    simp only [List.length_cons] at hl
    have h1 : ∀ pol, ∀ i ∈ pick M pol t, i < M.length := by
      intro pol i hi
      obtain ⟨x, hx, hk, rfl, _⟩ := pick_mem hi
      exact hm x (List.mem_cons_of_mem _ hx) hk
    have h2 : ∀ pol, (pick M pol t).length ≤ 1000 := fun pol => by have := pick_len M pol t; omega
    exact ⟨⟨fun h => hm p (List.mem_cons_self ..) h, h2 2, h2 3, h2 1, h1 2, h1 3⟩, h1 1⟩
theorem moveDay_ok (F : List Bool) (day m N : Nat) (hd : day < N) : ∀ (I : List Nat) (T0 T : List Mov), (∀ i ∈ I, i < m) → (∀ v ∈ T0, v.feast < m ∧ v.src < N) → moveDay F day I T0 = some T → (∀ v ∈ T, v.feast < m ∧ v.src < N) ∧ T.length = T0.length + I.length
  | [], T0, T, _, h0, h => by
    rw [moveDay] at h
    obtain rfl := Option.some.inj h
    exact ⟨h0, by simp⟩
  | i :: I, T0, T, hI, h0, h => by
    rw [moveDay] at h
    split at h
    · rename_i d _
      obtain ⟨h1, h2⟩ := moveDay_ok F day m N hd I _ T (fun j hj => hI j (List.mem_cons_of_mem _ hj)) (fun v hv => by
        rcases List.mem_append.1 hv with e | e
        · exact h0 v e
        · rw [List.mem_singleton.1 e]
          exact ⟨hI i (List.mem_cons_self ..), hd⟩) h
      exact ⟨h1, by rw [h2]; simp; omega⟩
    · simp at h
theorem assignC_ok (F : List Bool) (m N : Nat) : ∀ (I : List (List Nat)) (day : Nat) (T0 T : List Mov), (∀ l ∈ I, ∀ i ∈ l, i < m) → (∀ l ∈ I, l.length ≤ 1000) → (∀ v ∈ T0, v.feast < m ∧ v.src < N) → day + I.length ≤ N → assignC F day I T0 = some T → (∀ v ∈ T, v.feast < m ∧ v.src < N) ∧ T.length ≤ T0.length + 1000 * I.length
  | [], day, T0, T, _, _, h0, _, h => by
    rw [assignC] at h
    obtain rfl := Option.some.inj h
    exact ⟨h0, by simp⟩
  | l :: I, day, T0, T, hI, hl, h0, hN, h => by
    simp only [List.length_cons] at hN
    rw [assignC] at h
    split at h
    · rename_i T2 h2
      obtain ⟨a1, a2⟩ := moveDay_ok F day m N (by omega) l T0 T2 (hI l (List.mem_cons_self ..)) h0 h2
      obtain ⟨b1, b2⟩ := assignC_ok F m N I (day + 1) T2 T (fun l' h' => hI l' (List.mem_cons_of_mem _ h')) (fun l' h' => hl l' (List.mem_cons_of_mem _ h')) a1 (by omega) h
      refine ⟨b1, ?_⟩
      have := hl l (List.mem_cons_self ..)
      simp only [List.length_cons]
      omega
    · simp at h
/-- The moves of a well-formed catalogue. -/
theorem moves_ok {f : Int} {L M : List Rec} (hB : catB f L M = true) (y : Int) (T : List Mov) (h : movesC f L M y = some T) : TOK M y T ∧ T.length ≤ 400000 := by
  have hn : yearLen y ≤ 366 := by unfold yearLen; split <;> omega
  have hL : ((resList L M y).map Res.imp).length = yearLen y := by simp [resList]
  have hmem : ∀ r ∈ resList L M y, ResOK M r ∧ ∀ i ∈ r.imp, i < M.length := by
    intro r hr
    unfold resList at hr
    obtain ⟨i, _, rfl⟩ := List.mem_map.1 hr
    exact res_parts hB y _ _
  obtain ⟨h1, h2⟩ := assignC_ok _ M.length (yearLen y) ((resList L M y).map Res.imp) 0 [] T (fun l hl i hi => by
    obtain ⟨r, hr, rfl⟩ := List.mem_map.1 hl
    exact (hmem r hr).2 i hi) (fun l hl => by
    obtain ⟨r, hr, rfl⟩ := List.mem_map.1 hl
    exact (hmem r hr).1.limp) (fun v hv => by simp at hv) (by omega) h
  refine ⟨h1, ?_⟩
  simp only [List.length_nil] at h2
  omega
theorem res_at {f : Int} {L M : List Rec} (hB : catB f L M = true) (y : Int) {l : List RV} (h : l.map Prod.fst = resList L M y) (i : Nat) (hi : i < l.length) : ResOK M (l[i]!).1 := by
  have hm : (l[i]!).1 ∈ resList L M y := by
    rw [← h, getElem!_pos l i hi]
    exact List.mem_map.2 ⟨_, List.getElem_mem hi, rfl⟩
  unfold resList at hm
  obtain ⟨j, _, e⟩ := List.mem_map.1 hm
  rw [← e]
  exact (res_parts hB y _ _).1
theorem moves_eq (f : Int) (L M : List Rec) (y : Int) {l : List RV} (h : l.map Prod.fst = resList L M y) : assignC (frees f l) 0 (l.map (fun x => x.1.imp)) [] = movesC f L M y := by
  unfold movesC frees
  rw [← h, List.map_map, List.map_map]
  rfl
end Go.Proofs.YtblaphkaklocfaaGreatDoor
/- Contract: ordo's assemble. -/
namespace Go.Proofs.YtblaphkaklocfaaGreatDoor
open Go.ChangeShapes Go.WideShapes Go.ChangeAt Go.RowKit Go.Maps
set_option maxHeartbeats 8000000
set_option maxRecDepth 20000

theorem assemble_ok {f y : Int} {L M : List Rec} (C : Ctx f L M y) (o o' : Option Addr) (q q' : Nat) (w0 w : World) (I : Cin w0 o o' L M) (P : Nat) (h0 : Kept w0 w) (hp0 : w0.heap.size ≤ P) (vd vm : Value) (n7 : Int) (l : List RV) (T : List Mov) (b0 b1 : Nat)
    (hP : Blk w P #[.int .i64 f, .slice o L.length q, .slice o' M.length q', .int .i64 y, .int .i64 (fst 2 y), vd, vm, .int .i64 n7, .slice none 0 0] 102) (hD : DaySt b0 w vd l) (hl : l.length = yearLen y)
    (hT : w.ownsRow b1 219 3 vm T.length (flatM T)) (hTl : T.length ≤ 400000) (hTo : TOK M y T) (hro : ∀ i, i < l.length → ResOK M (l[i]!).1) :
    Calls Tryz.prog 55 #[.pointer (some ⟨P, 0, none⟩)] w fun e w' => ∃ ve le, e = .returned (.int .i64 0) ∧ Blk w' P #[.int .i64 f, .slice o L.length q, .slice o' M.length q', .int .i64 y, .int .i64 (fst 2 y), vd, vm, .int .i64 y, ve] 102 ∧
      EntSt w.heap.size w' ve le ∧ le.map Prod.fst = entsR L M y T l l.length ∧ w.grownBy w' (some P) := by
  obtain ⟨i0, hi, hz0, hz1, hz2⟩ := info_parts info_entry
  obtain ⟨od, cd, rfl⟩ := owns_form hD.row
  have c3 : w.cell? ⟨P, 3, none⟩ = some (.int .i64 y) := by rw [hP.cell]; rfl
  have c5 : w.cell? ⟨P, 5, none⟩ = some (.slice od l.length cd) := by rw [hP.cell]; rfl
  have c7 : w.cell? ⟨P, 7, none⟩ = some (.int .i64 n7) := by rw [hP.cell]; rfl
  have f7 := hP.free 7
  have hlP := hP.lt
  have hn : yearLen y ≤ 366 := by unfold yearLen; split <;> omega
  have hn2 : l.length ≤ 366 := by omega
  have HC := Lib.hid C
  have HI := Lib.hid I
  have HP := Lib.hid hP
  have HD := Lib.hid hD
  have HT := Lib.hid hT
  have H0 := Lib.hid h0
  have HTO := Lib.hid hTo
  have HRO := Lib.hid hro
  have Hl := Lib.hid hl
  have Hn := Lib.hid hn
  clear C I hP hD hT h0 hTo hro hl hn
  go_enter Tryz.func55, Tryz.ntmps55
  go_wp2_with fail
  obtain ⟨w1, hw1⟩ : ∃ x, x = w.setCell ⟨P, 7, none⟩ (.int .i64 y) := ⟨_, rfl⟩
  rw [← hw1]
  have HP1 : Hid (Blk w1 P #[.int .i64 f, .slice o L.length q, .slice o' M.length q', .int .i64 y, .int .i64 (fst 2 y), .slice od l.length cd, vm, .int .i64 y, .slice none 0 0] 102) := (show Blk _ _ _ _ from by rw [hw1]; exact blk_set HP.out _ rfl)
  have HG1 : Hid (w.grownBy w1 (some P)) := (show World.grownBy _ _ _ from by rw [hw1]; exact grown_setC _ _ _ _)
  have d5 : w1.cell? ⟨P, 5, none⟩ = some (.slice od l.length cd) := by rw [HP1.out.cell]; rfl
  clear c3 c5 c7 f7 hw1
  go_wp2_with fail
  go_loopw [17] (fun i wr => ∃ (j : Nat) (le : List EV) (ve : Value), j ≤ l.length ∧ i = .int .i64 j ∧ le.length = j ∧ Hid (Blk wr P #[.int .i64 f, .slice o L.length q, .slice o' M.length q', .int .i64 y, .int .i64 (fst 2 y), .slice od l.length cd, vm, .int .i64 y, ve] 102) ∧ Hid (EntSt w.heap.size wr ve le) ∧
      Hid (le.map Prod.fst = entsR L M y T l j) ∧ Hid (w.grownBy wr (some P))) (fun i _ => (l.length - intOf i).toNat)
  case atStart => exact ⟨0, [], _, by omega, rfl, rfl, HP1, Lib.hid (EntSt.nil _ _), Lib.hid rfl, HG1⟩
  case round =>
    obtain ⟨_, le, ve, hj, rfl, rfl, HB, HE, HL, HG⟩ := hrel
    obtain ⟨oe, ce, rfl⟩ := owns_form HE.out.row
    by_cases hlt : le.length < l.length
    · have k0 : Hid (Kept w0 wr) := Below.grown H0.out HG.out (by have := H0.out.size; omega) (fun q e => by cases e; omega)
      have KE := Lib.hid (fun w' (k : Kept wr w') => entry_ok HC.out o o' q q' w0 w' HI.out P (k0.out.trans k) (.slice od l.length cd) vm (.int .i64 y) (.slice oe le.length ce) l T b0 b1 (HB.out.kept k)
        ((HD.out.grownB HP.out (by decide) (by decide) HG.out).kept k) Hl.out (owns_kept (owns_grown HT.out HG.out (.inr (owns_not_blk HT.out HP.out (by decide)))) k) hTl HTO.out le.length hlt (HRO.out _ hlt))
      have HEs := Lib.hid (entsR_succ L M y T l le.length)
      generalize entC L M y (fst 2 y) T le.length (l[le.length]!).1 = en at *
      obtain ⟨⟨e0, e1, e2⟩, wd, ss, wk, kd, pri, rk, ⟨s0, s1, s2⟩, ecom, eomi⟩ := en
      dsimp only [entV] at KE
      have d8 : wr.cell? ⟨P, 8, none⟩ = some (.slice oe le.length ce) := by rw [HB.out.cell]; rfl
      have hlB := HB.out.lt
      have hjz : (le.length : Int) < (l.length : Int) := by omega
      have hsG := HG.out.size
      go_wp2_with fail
      go_region_law (first
        | (refine step_append_lies _ (by rfl) _ _ _ (by rfl) w.heap.size 56 i0 _ 14 160 Tryz.underlying47 hi hz0 hz1 hz2 rfl (by omega) (.slice oe le.length ce) le.length (flatE le) (by rfl) (hE2.out.row.alloc _) ⟨W2.heap.size, 0, none⟩ 1 1 [.int .i64 e0, .int .i64 e1, .int .i64 e2, .int .i64 wd, .string ss, .int .i64 wk, .int .i64 kd, .string pri, .int .i64 rk, .int .i64 s0, .int .i64 s1, .int .i64 s2, .slice x1 ecom.length y1, .slice x2 eomi.length y2] (by rfl) (by rfl) (World.news_of_block hna) hone (by omega) (by unfold maxLen; omega) (by omega) (by simp; omega) (W2.heap.size + 1) (by simp) ?_; intro gg cap v1 hown1 hgrow hat hlt1; have hB3 := (hB2.out.alloc (.cells #[.int .i64 e0, .int .i64 e1, .int .i64 e2, .int .i64 wd, .string ss, .int .i64 wk, .int .i64 kd, .string pri, .int .i64 rk, .int .i64 s0, .int .i64 s1, .int .i64 s2, .slice x1 ecom.length y1, .slice x2 eomi.length y2] 56)).grown hgrow (fun e => owns_not_blk hE2.out.row hB2.out (by decide) e.symm); have z8 : v1.cell? ⟨P, 8, none⟩ = some (.slice oe le.length ce) := (by rw [hB3.cell]; rfl); have z9 := hB3.free 8; have HO3 := Lib.hid hown1; have HG3 := Lib.hid hgrow; have HB3 := Lib.hid hB3; clear hown1 hgrow hB3)
        | (go_simp; go_at_call 108; (with_reducible refine (KE.out _ ?_).mono ?_); (· (repeat (first | with_reducible assumption | with_reducible exact Kept.refl _ | with_reducible apply Kept.drew))); rintro e W2 ⟨u1, u2, rfl, ro1, ro2, hk2⟩; obtain ⟨x1, y1, rfl⟩ := owns_form ro1; obtain ⟨x2, y2, rfl⟩ := owns_form ro2; have kk2 : Kept wr W2 := Kept.trans (by (repeat (first | with_reducible assumption | with_reducible exact Kept.refl _ | with_reducible apply Kept.drew))) hk2; have hB2 := Lib.hid (HB.out.kept kk2); have hE2 := Lib.hid (HE.out.kept kk2); have y8 := (kk2.cell _ 8 hlB).trans d8; have hl2 := hB2.out.lt; have hs2 := kk2.size; have hna := Blk.new W2 #[.int .i64 e0, .int .i64 e1, .int .i64 e2, .int .i64 wd, .string ss, .int .i64 wk, .int .i64 kd, .string pri, .int .i64 rk, .int .i64 s0, .int .i64 s1, .int .i64 s2, .slice x1 ecom.length y1, .slice x2 eomi.length y2] 56; have hone : ∀ u ∈ ([.int .i64 e0, .int .i64 e1, .int .i64 e2, .int .i64 wd, .string ss, .int .i64 wk, .int .i64 kd, .string pri, .int .i64 rk, .int .i64 s0, .int .i64 s1, .int .i64 s2, .slice x1 ecom.length y1, .slice x2 eomi.length y2] : List Value), u.oneCell' = true := (by simp [Value.oneCell'])))
      all_goals go_wp2
      all_goals (
        have hx : ERows w.heap.size (W2.alloc (.cells #[.int .i64 e0, .int .i64 e1, .int .i64 e2, .int .i64 wd, .string ss, .int .i64 wk, .int .i64 kd, .string pri, .int .i64 rk, .int .i64 s0, .int .i64 s1, .int .i64 s2, .slice x1 ecom.length y1, .slice x2 eomi.length y2] 56)) ((⟨⟨e0, e1, e2⟩, wd, ss, wk, kd, pri, rk, ⟨s0, s1, s2⟩, ecom, eomi⟩, (.slice x1 ecom.length y1, .slice x2 eomi.length y2)) : EV) := ERows.kept (ERows.base ⟨ro1, ro2⟩ (by simpa using hsG)) ((Kept.refl W2).alloc _)
        have g1 : w.grownBy W2 (some P) := HG.out.trans ⟨kk2.os, kk2.tape, kk2.output, kk2.size, fun k hk _ => kk2.block k hk⟩
        have g2 := g1.trans (World.grownBy_alloc W2 (.cells #[.int .i64 e0, .int .i64 e1, .int .i64 e2, .int .i64 wd, .string ss, .int .i64 wk, .int .i64 kd, .string pri, .int .i64 rk, .int .i64 s0, .int .i64 s1, .int .i64 s2, .slice x1 ecom.length y1, .slice x2 eomi.length y2] 56) (some P))
        have g3 := (g2.andThen HG3.out (fun q e => .inl ((hE2.out.row.lt q e).1))).trans (grown_setC v1 P 8 (.slice (some ⟨gg, 0, none⟩) (le.length + 1) cap))
        exact ⟨⟨le.length + 1, le ++ [((⟨⟨e0, e1, e2⟩, wd, ss, wk, kd, pri, rk, ⟨s0, s1, s2⟩, ecom, eomi⟩, (.slice x1 ecom.length y1, .slice x2 eomi.length y2)) : EV)], _, by omega, by go_num, by simp, Lib.hid (blk_set HB3.out _ rfl), Lib.hid (((hE2.out.kept ((Kept.refl W2).alloc _)).step _ hx HO3.out HG3.out).set HB3.out (by decide) (by decide) _), Lib.hid (by rw [List.map_append, HL.out, HEs.out]; rfl), Lib.hid g3⟩, by simp [intOf]; omega⟩)
    · obtain hje : le.length = l.length := by omega
      go_wp2
      go_ret
      exact ⟨_, le, rfl, HB.out, HE.out, by rw [HL.out, hje], HG.out⟩
end Go.Proofs.YtblaphkaklocfaaGreatDoor
/- Contract: ordo.Build, where there is a calendar. -/
namespace Go.Proofs.YtblaphkaklocfaaGreatDoor
open Go.ChangeShapes Go.WideShapes Go.ChangeAt Go.RowKit Go.Maps
set_option maxHeartbeats 8000000
set_option maxRecDepth 20000

theorem blk_ne0 {w : World} {b b' : Nat} {cs cs' : Array Value} {t t' : TypeId} (h : Blk w b cs t) (h' : Blk w b' cs' t') (hne : t ≠ t') : b ≠ b' := by
  rintro rfl
  rw [Blk] at h h'
  rw [h] at h'
  injection h' with e
  injection e with _ e2
  exact hne e2
/-- How far Build has come. -/
def Stg (f y : Int) (L M : List Rec) (o o' : Option Addr) (q q' : Nat) (T : List Mov) (P b0 j : Nat) (w : World) : Prop :=
  (j = 0 ∧ Blk w P #[.int .i64 f, .slice o L.length q, .slice o' M.length q', .int .i64 y, .int .i64 0, .slice none 0 0, .slice none 0 0, .int .i64 0, .slice none 0 0] 102) ∨
  (j = 1 ∧ ∃ vd l, Blk w P #[.int .i64 f, .slice o L.length q, .slice o' M.length q', .int .i64 y, .int .i64 (fst 2 y), vd, .slice none 0 0, .int .i64 0, .slice none 0 0] 102 ∧ DaySt b0 w vd l ∧ l.map Prod.fst = resList L M y) ∨
  (j = 2 ∧ ∃ vd l vm, Blk w P #[.int .i64 f, .slice o L.length q, .slice o' M.length q', .int .i64 y, .int .i64 (fst 2 y), vd, vm, .int .i64 0, .slice none 0 0] 102 ∧ DaySt b0 w vd l ∧ l.map Prod.fst = resList L M y ∧ w.ownsRow b0 219 3 vm T.length (flatM T)) ∨
  (j = 3 ∧ ∃ vd vm ve le, Blk w P #[.int .i64 f, .slice o L.length q, .slice o' M.length q', .int .i64 y, .int .i64 (fst 2 y), vd, vm, .int .i64 y, ve] 102 ∧ EntSt b0 w ve le ∧ le.map Prod.fst = entsC L M y T)
theorem DaySt.base {b b' : Nat} {w : World} {v : Value} {l : List RV} (h : DaySt b w v l) (hb : b' ≤ b) : DaySt b' w v l := ⟨owns_base h.row hb, fun x hx => (h.rows x hx).base hb⟩
theorem Build_ok {f y : Int} {L M : List Rec} (C : Ctx f L M y) (o o' : Option Addr) (q q' : Nat) (w : World) (I : Cin w o o' L M) (T : List Mov) (hT : movesC f L M y = some T) (hS : ∀ i, i < yearLen y → StableAt (candsY L M y i).length) :
    Calls Tryz.prog 19 #[catV f o o' q q' L M, .int .i64 y] w fun e w' => ∃ ve le, e = .returned (.tuple #[.agg #[.int .i64 y, ve], .int .i64 0]) ∧ EntSt w.heap.size w' ve le ∧ le.map Prod.fst = entsC L M y T ∧ Kept w w' := by
  unfold catV
  have hmf : ∀ (fn : Fn) (first cap : Array Value) (w : World), (Instr.makeFunc fn first cap).run Tryz.prog w = .ok (.func fn first cap) w := fun _ _ _ _ => rfl
  have HC := Lib.hid C
  have HI := Lib.hid I
  have HT := Lib.hid hT
  have HS := Lib.hid hS
  have Hy : Hid (yearLen y ≤ 366 ∧ 365 ≤ yearLen y) := (show _ ∧ _ from by unfold yearLen; split <;> omega)
  clear C I hT hS
  go_enter Tryz.func19, Tryz.ntmps19
  go_wp2_with fail
  obtain ⟨P, hP⟩ : ∃ x, x = w.heap.size + 1 + 1 := ⟨_, rfl⟩
  obtain ⟨Z, hZ⟩ : ∃ x, x = w.heap.size + 1 := ⟨_, rfl⟩
  obtain ⟨Y, hY⟩ : ∃ x, x = w.heap.size + 1 + 1 + 1 := ⟨_, rfl⟩
  rw [← hY, ← hP, ← hZ]
  obtain ⟨W0, hW0⟩ : ∃ x, x = ((((w.alloc (.cells #[.int .i64 f, .slice o L.length q, .slice o' M.length q'] 45)).alloc (.cells #[.int .i64 0, .slice none 0 0] 49)).alloc (.cells #[.int .i64 f, .slice o L.length q, .slice o' M.length q', .int .i64 y, .int .i64 0, .slice none 0 0, .slice none 0 0, .int .i64 0, .slice none 0 0] 102)).alloc (.cells #[.func (.func 53) #[.pointer (some ⟨P, 0, none⟩)] #[], .func (.func 54) #[.pointer (some ⟨P, 0, none⟩)] #[], .func (.func 55) #[.pointer (some ⟨P, 0, none⟩)] #[]] 103)) := ⟨_, rfl⟩
  rw [← hW0]
  have k0 : Hid (Kept w W0) := (show Kept _ _ from by rw [hW0]; exact ((((Kept.refl w).alloc _).alloc _).alloc _).alloc _)
  have bP : Hid (Blk W0 P #[.int .i64 f, .slice o L.length q, .slice o' M.length q', .int .i64 y, .int .i64 0, .slice none 0 0, .slice none 0 0, .int .i64 0, .slice none 0 0] 102) := (show Blk _ _ _ _ from by
    rw [hW0]
    have := (Blk.new ((w.alloc (.cells #[.int .i64 f, .slice o L.length q, .slice o' M.length q'] 45)).alloc (.cells #[.int .i64 0, .slice none 0 0] 49)) #[.int .i64 f, .slice o L.length q, .slice o' M.length q', .int .i64 y, .int .i64 0, .slice none 0 0, .slice none 0 0, .int .i64 0, .slice none 0 0] 102).alloc (.cells #[.func (.func 53) #[.pointer (some ⟨P, 0, none⟩)] #[], .func (.func 54) #[.pointer (some ⟨P, 0, none⟩)] #[], .func (.func 55) #[.pointer (some ⟨P, 0, none⟩)] #[]] 103)
    simpa [hP] using this)
  have bY : Hid (Blk W0 Y #[.func (.func 53) #[.pointer (some ⟨P, 0, none⟩)] #[], .func (.func 54) #[.pointer (some ⟨P, 0, none⟩)] #[], .func (.func 55) #[.pointer (some ⟨P, 0, none⟩)] #[]] 103) := (show Blk _ _ _ _ from by
    rw [hW0]
    have := Blk.new (((w.alloc (.cells #[.int .i64 f, .slice o L.length q, .slice o' M.length q'] 45)).alloc (.cells #[.int .i64 0, .slice none 0 0] 49)).alloc (.cells #[.int .i64 f, .slice o L.length q, .slice o' M.length q', .int .i64 y, .int .i64 0, .slice none 0 0, .slice none 0 0, .int .i64 0, .slice none 0 0] 102)) #[.func (.func 53) #[.pointer (some ⟨P, 0, none⟩)] #[], .func (.func 54) #[.pointer (some ⟨P, 0, none⟩)] #[], .func (.func 55) #[.pointer (some ⟨P, 0, none⟩)] #[]] 103
    simpa [hY] using this)
  have bZ : Hid (Blk W0 Z #[.int .i64 0, .slice none 0 0] 49) := (show Blk _ _ _ _ from by
    rw [hW0]
    have := ((Blk.new (w.alloc (.cells #[.int .i64 f, .slice o L.length q, .slice o' M.length q'] 45)) #[.int .i64 0, .slice none 0 0] 49).alloc (.cells #[.int .i64 f, .slice o L.length q, .slice o' M.length q', .int .i64 y, .int .i64 0, .slice none 0 0, .slice none 0 0, .int .i64 0, .slice none 0 0] 102)).alloc (.cells #[.func (.func 53) #[.pointer (some ⟨P, 0, none⟩)] #[], .func (.func 54) #[.pointer (some ⟨P, 0, none⟩)] #[], .func (.func 55) #[.pointer (some ⟨P, 0, none⟩)] #[]] 103)
    simpa [hZ] using this)
  have Hz : Hid (w.heap.size ≤ P ∧ w.heap.size ≤ Z ∧ W0.heap.size = w.heap.size + 4 ∧ Z ≠ P) := (show _ ∧ _ ∧ _ ∧ _ from ⟨by omega, by omega, by rw [hW0]; simp, by omega⟩)
  clear hW0 hP hZ hY
  go_loopw [22] (fun ir wr => ∃ j : Nat, j ≤ 3 ∧ ir = .int .i64 j ∧ Hid (W0.grownBy wr (some P)) ∧ Hid (Stg f y L M o o' q q' T P w.heap.size j wr)) (fun ir _ => (3 - intOf ir).toNat)
  case atStart => exact ⟨0, by omega, rfl, Lib.hid (World.grownBy.refl _ _), Lib.hid (.inl ⟨rfl, bP.out⟩)⟩
  case round =>
    obtain ⟨j, hj, rfl, HG, HSt⟩ := hrel
    have HY := Lib.hid (Blk.grown bY.out HG.out (fun e => blk_ne0 bY.out bP.out (by decide) (Option.some.inj e)))
    have HZ := Lib.hid (Blk.grown bZ.out HG.out (fun e => blk_ne0 bZ.out bP.out (by decide) (Option.some.inj e)))
    have kr : Hid (Kept w wr) := (show Kept _ _ from Below.grown k0.out HG.out k0.out.size (fun q e => by cases e; exact Hz.out.1))
    have y0 : wr.cell? ⟨Y, 0, none⟩ = some (.func (.func 53) #[.pointer (some ⟨P, 0, none⟩)] #[]) := by rw [HY.out.cell]; rfl
    have y1 : wr.cell? ⟨Y, 1, none⟩ = some (.func (.func 54) #[.pointer (some ⟨P, 0, none⟩)] #[]) := by rw [HY.out.cell]; rfl
    have y2 : wr.cell? ⟨Y, 2, none⟩ = some (.func (.func 55) #[.pointer (some ⟨P, 0, none⟩)] #[]) := by rw [HY.out.cell]; rfl
    have lY := HY.out.lt
    have hsW := Lib.hid HG.out.size
    rcases (show j = 0 ∨ j = 1 ∨ j = 2 ∨ j = 3 from by omega) with rfl | rfl | rfl | rfl
    · as_aux_lemma =>
      rcases HSt.out with ⟨_, hB⟩ | ⟨h, _⟩ | ⟨h, _⟩ | ⟨h, _⟩ <;> try omega
      have KR := Lib.hid (resolve_ok HC.out o o' q q' w wr HI.out P kr.out Hz.out.1 0 (.slice none 0 0) (.int .i64 0) (.slice none 0 0) hB HS.out)
      clear hB
      go_wp2_with fail
      go_at_call 53
      (with_reducible refine KR.out.mono ?_)
      rintro e w2 ⟨vd, l, rfl, hB2, hD2, hl2, hg2⟩
      have HB2 := Lib.hid hB2
      have HG2 := Lib.hid (HG.out.trans hg2)
      have HX := Lib.hid (show Stg f y L M o o' q q' T P w.heap.size 1 w2 from .inr (.inl ⟨rfl, vd, l, hB2, hD2.base (by have := hsW.out; have := Hz.out.2.2.1; omega), hl2⟩))
      clear KR hB2 hD2 hl2 hg2
      go_wp2
      exact ⟨⟨1, by omega, by go_num, HG2, HX⟩, by simp [intOf]⟩
    · as_aux_lemma =>
      rcases HSt.out with ⟨h, _⟩ | ⟨_, vd, l, hB, hD, hl⟩ | ⟨h, _⟩ | ⟨h, _⟩ <;> try omega
      have hll : l.length = yearLen y := by have := congrArg List.length hl; simpa [resList_len] using this
      have KR := Lib.hid (transfer_ok f y (fst 2 y) L M o o' q q' wr P vd (.slice none 0 0) (.int .i64 0) (.slice none 0 0) l w.heap.size hB hD (by have := Hy.out.1; omega) (by have := Hy.out.2; omega) (fun i hi => (res_at HC.out.hB y hl i hi).limp))
      rw [moves_eq f L M y hl, HT.out] at KR
      have HD := Lib.hid hD
      have HB0 := Lib.hid hB
      have HL := Lib.hid hl
      clear hB hD hl
      go_wp2_with fail
      go_at_call 54
      (with_reducible refine KR.out.mono ?_)
      rintro e w2 ⟨vm, hB2, hg2, ⟨T2, hT2, rfl, hrow⟩ | ⟨hT2, _⟩⟩
      · obtain rfl := Option.some.inj hT2
        have HG2 := Lib.hid (HG.out.trans hg2)
        have HX := Lib.hid (show Stg f y L M o o' q q' T P w.heap.size 2 w2 from .inr (.inr (.inl ⟨rfl, vd, l, vm, hB2, HD.out.grownB HB0.out (by decide) (by decide) hg2, HL.out, owns_base hrow (by have := hsW.out; have := Hz.out.2.2.1; omega)⟩)))
        clear KR hB2 hg2 hrow hT2
        go_wp2
        exact ⟨⟨2, by omega, by go_num, HG2, HX⟩, by simp [intOf]⟩
      · simp at hT2
    · as_aux_lemma =>
      rcases HSt.out with ⟨h, _⟩ | ⟨h, _⟩ | ⟨_, vd, l, vm, hB, hD, hl, hrow⟩ | ⟨h, _⟩ <;> try omega
      have hll : l.length = yearLen y := by have := congrArg List.length hl; simpa [resList_len] using this
      have hmv := moves_ok HC.out.hB y T HT.out
      have KR := Lib.hid (assemble_ok HC.out o o' q q' w wr HI.out P kr.out Hz.out.1 vd vm 0 l T w.heap.size w.heap.size hB hD hll hrow hmv.2 hmv.1 (fun i hi => res_at HC.out.hB y hl i hi))
      rw [hll, entsR_all L M y T l hl] at KR
      clear hB hD hl hrow hmv
      go_wp2_with fail
      go_at_call 55
      (with_reducible refine KR.out.mono ?_)
      rintro e w2 ⟨ve, le, rfl, hB2, hE2, hle, hg2⟩
      have HG2 := Lib.hid (HG.out.trans hg2)
      have HX := Lib.hid (show Stg f y L M o o' q q' T P w.heap.size 3 w2 from .inr (.inr (.inr ⟨rfl, vd, vm, ve, le, hB2, hE2.base (by have := hsW.out; have := Hz.out.2.2.1; omega), hle⟩)))
      clear KR hB2 hE2 hle hg2
      go_wp2
      exact ⟨⟨3, by omega, by go_num, HG2, HX⟩, by simp [intOf]⟩
    · rcases HSt.out with ⟨h, _⟩ | ⟨h, _⟩ | ⟨h, _⟩ | ⟨_, vd, vm, ve, le, hB, hE, hle⟩ <;> try omega
      have d7 : wr.cell? ⟨P, 7, none⟩ = some (.int .i64 y) := by rw [hB.cell]; rfl
      have d8 : wr.cell? ⟨P, 8, none⟩ = some ve := by rw [hB.cell]; rfl
      have z0 : wr.cell? ⟨Z, 0, none⟩ = some (.int .i64 0) := by rw [HZ.out.cell]; rfl
      have z1 : wr.cell? ⟨Z, 1, none⟩ = some (.slice none 0 0) := by rw [HZ.out.cell]; rfl
      have fz0 := HZ.out.free 0
      have fz1 := HZ.out.free 1
      obtain ⟨oe, ce, rfl⟩ := owns_form hE.row
      have HE := Lib.hid hE
      have HLE := Lib.hid hle
      clear hB hE hle y0 y1 y2
      go_wp2
      have B1 : Blk (wr.setCell ⟨Z, 0, none⟩ (.int .i64 y)) Z #[.int .i64 y, .slice none 0 0] 49 := blk_set HZ.out _ rfl
      have B2 : Blk ((wr.setCell ⟨Z, 0, none⟩ (.int .i64 y)).setCell ⟨Z, 1, none⟩ (.slice oe le.length ce)) Z #[.int .i64 y, .slice oe le.length ce] 49 := blk_set B1 _ rfl
      have q0 := B2.cell 0
      have q1 := B2.cell 1
      refine bodyPost_ret (v := .tuple #[.agg #[.int .i64 y, .slice oe le.length ce], .int .i64 0]) (by simp [results, Tryz.results19, go_sem, q0, q1]) rfl ?_
      exact ⟨_, rfl, le, (HE.out.set HZ.out (by decide) (by decide) _).set B1 (by decide) (by decide) _, HLE.out, Kept.setCell (Kept.setCell kr.out Hz.out.2.1 _) Hz.out.2.1 _⟩
end Go.Proofs.YtblaphkaklocfaaGreatDoor

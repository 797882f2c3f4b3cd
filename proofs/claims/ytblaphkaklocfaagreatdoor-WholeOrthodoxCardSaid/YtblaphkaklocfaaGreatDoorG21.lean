/- Contracts and plain lemmas: Inz, Ds0, Dis, Ids, Bl0. -/
import Derived.Test.YtblaphkaklocfaaGreatDoorG13
import Derived.Test.YtblaphkaklocfaaGreatDoorG17
import Derived.Test.YtblaphkaklocfaaGreatDoorG20
import Derived.Maps.Range
import Derived.Deep.RegionHeld3
import Derived.Deep.DeepCutAuto
set_option linter.unusedSimpArgs false
set_option linter.unusedVariables false
set_option linter.unusedSectionVars false
/- slices.Insert at the begin of a row of the call's own; slices.Clone of any row. -/
namespace Go.Proofs.YtblaphkaklocfaaGreatDoor
open Go.ChangeShapes Go.WideShapes Go.ChangeAt Go.RowKit Go.Lib
set_option maxHeartbeats 2000000
set_option maxRecDepth 20000

theorem grown_setC (w : World) (b o : Nat) (u : Value) : w.grownBy (w.setCell ⟨b, o, none⟩ u) (some b) :=
  ⟨rfl, rfl, rfl, by simp [World.setCell], fun k _ hne => Below.heap_setCell w _ u k (fun e => hne (by rw [e]))⟩
theorem grown_setCells (b : Nat) : ∀ (vs : List Value) (o : Nat) (w : World), w.grownBy (w.setCells b o vs) (some b)
  | [], _, w => ⟨rfl, rfl, rfl, Nat.le_refl _, fun _ _ _ => rfl⟩
  | v :: r, o, w => (grown_setC w b o v).trans (grown_setCells b r (o + 1) _)
theorem Blk.setCells {b : Nat} {t : TypeId} : ∀ (vs : List Value) (o : Nat) (w : World) (cs : Array Value), Blk w b cs t →
    ∃ cs', Blk (w.setCells b o vs) b cs' t ∧ cs'.size = cs.size ∧ ∀ k, k < cs.size → cs'[k]? = if o ≤ k ∧ k < o + vs.length then vs[k - o]? else cs[k]?
  | [], o, w, cs, h => ⟨cs, h, rfl, fun k hk => by rw [if_neg (by simp)]⟩
  | v :: r, o, w, cs, h => by
    obtain ⟨cs', h1, h2, h3⟩ := Blk.setCells r (o + 1) _ _ (h.set o v)
    refine ⟨cs', h1, by simpa using h2, fun k hk => ?_⟩
    rw [h3 k (by simpa using hk)]
    by_cases e : k = o
    · subst e
      rw [if_neg (by omega), if_pos (by simp)]
      simp [hk]
    · by_cases e2 : o + 1 ≤ k ∧ k < o + 1 + r.length
      · rw [if_pos e2, if_pos (by simp; omega)]
        have : k - o = (k - (o + 1)) + 1 := by omega
        rw [this, List.getElem?_cons_succ]
      · rw [if_neg e2, if_neg (by simp; omega), Array.getElem?_setIfInBounds_ne (by omega)]
theorem own_of_blk {w : World} {base g n cap : Nat} {cs : Array Value} {xs : List Value} (hb : Blk w g cs 3) (hs : cs.size = cap) (hn : xs.length = n) (hc : n ≤ cap) (hm : cap ≤ maxLen) (hg : base ≤ g) (hx : ∀ k, k < n → cs[k]? = xs[k]?) :
    w.ownsRow base 3 1 (.slice (some ⟨g, 0, none⟩) n cap) n xs := by
  refine ⟨by omega, .inr ⟨g, cap, cs, rfl, hg, hb, hc, hm, by omega, ?_⟩⟩
  apply List.ext_getElem?
  intro k
  rw [List.getElem?_take, Nat.mul_one]
  split
  · rename_i hk
    rw [Array.getElem?_toList]
    exact hx k hk
  · rw [List.getElem?_eq_none (by omega)]
theorem grown_dr (w : World) (row : Option Nat) : w.grownBy w.drew row := ⟨rfl, rfl, rfl, Nat.le_refl _, fun _ _ _ => rfl⟩
theorem zc_size (n : Nat) : (Builtin.zeroCells (Value.int .i64 0).cells n).size = n := by simp [Builtin.zeroCells, Value.cells]
theorem ins_sz {n : Nat} (h : 1 ≤ n) : 1 + (n - 1) = n := by omega
theorem natV_len (l : List Nat) : (natV l).length = l.length := by simp [natV]
theorem natV_one (l : List Nat) : ∀ v ∈ natV l, v.oneCell' = true := fun v h => by
  simp only [natV, List.mem_map] at h
  obtain ⟨x, _, rfl⟩ := h
  rfl
theorem one_one (i : Int) : ∀ v ∈ [Value.int .i64 i], v.oneCell' = true := fun v h => by
  simp at h
  subst h
  rfl
theorem one_at {w : World} {vb : Nat} {i : Int} (h : Blk w vb #[.int .i64 i] 3) : ∀ j v, [Value.int .i64 i][j]? = some v → w.cell? ⟨vb, 0 + j, none⟩ = some v := fun j v hj => by
  match j, hj with
  | 0, hj => simp at hj; subst hj; rw [h.cell]; rfl
/-- slices.Insert(row, 0, i): the row is one longer, and i stands ahead. -/
theorem Ins0_ok (base : Nat) (v : Value) (l : List Nat) (i : Nat) (w : World) (hown : w.ownsRow base 3 1 v l.length (natV l)) (hl : l.length ≤ 1000000) (vb : Nat) (hvb : Blk w vb #[.int .i64 i] 3) (hne : v.ownBlock ≠ some vb) (hb : base ≤ w.heap.size) :
    Calls Tryz.prog 216 #[v, .int .i64 0, .slice (some ⟨vb, 0, none⟩) 1 1] w fun e w' => ∃ v', e = .returned v' ∧ w'.ownsRow base 3 1 v' (l.length + 1) (natV (i :: l)) ∧ w.grownBy w' v.ownBlock ∧
      (v'.ownBlock = v.ownBlock ∨ ∃ g, v'.ownBlock = some g ∧ w.heap.size ≤ g) := by
  have hc := hown
  obtain ⟨_, ⟨rfl, h0⟩ | ⟨g, cap, cur, rfl, hbg, hg, hnc, hcm, hcs, hxs⟩⟩ := hown
  · have hl0 : l = [] := List.eq_nil_of_length_eq_zero h0
    subst hl0
    refine Calls.mono (show Calls Tryz.prog 216 #[.slice none 0 0, .int .i64 0, .slice (some ⟨vb, 0, none⟩) 1 1] w _ from Any2.slices_Insert_int_end_grow Tryz.laysIns none 0 0 vb 0 1 1 [] [.int .i64 i] w (by omega) (by omega) (by omega) (by omega) rfl rfl (fun _ => rfl) (fun a e => by cases e) (one_at hvb) (one_one i)) ?_
    rintro e w' ⟨rfl, rfl⟩
    have hge := grownCap_ge w (0 + 1) 0 3
    have hle := grownCap_le_maxLen w (0 + 1) 0 3 (by unfold maxLen; omega)
    refine ⟨_, rfl, own_of_blk (Blk.new w.drew _ _) ?_ rfl hge hle hb ?_, (grown_dr w _).trans (World.grownBy_alloc _ _ _), .inr ⟨_, rfl, Nat.le_refl _⟩⟩
    · simp [zc_size]
      exact ins_sz hge
    · intro k hk
      obtain rfl : k = 0 := by simp at hk; omega
      show (#[Value.int .i64 i] ++ _)[0]? = _
      rw [Array.getElem?_append_left (by simp)]
      rfl
  · by_cases h0 : l.length = 0
    · have hl0 : l = [] := List.eq_nil_of_length_eq_zero h0
      subst hl0
      by_cases hr : 1 ≤ cap
      · refine Calls.mono (show Calls Tryz.prog 216 #[.slice (some ⟨g, 0, none⟩) 0 cap, .int .i64 0, .slice (some ⟨vb, 0, none⟩) 1 1] w _ from Any2.slices_Insert_int_end_room Tryz.laysIns g 0 0 cap vb 0 1 1 [.int .i64 i] w (by omega) (by omega) (by unfold maxLen at hcm; omega) rfl ?_ ?_ (one_at hvb) (one_one i)) ?_
        · intro j hj
          rw [Blk.cell hg, Array.getElem?_eq_getElem (by omega)]
          rfl
        · intro j hj
          rw [Blk.free hg]
        rintro e w' ⟨rfl, rfl⟩
        obtain ⟨cs', b1, b2, b3⟩ := Blk.setCells [.int .i64 i] (0 + 0) w cur hg
        refine ⟨_, rfl, own_of_blk b1 (by omega) rfl (by simpa using hr) hcm hbg ?_, grown_setCells _ _ _ _, .inl rfl⟩
        intro k hk
        obtain rfl : k = 0 := by simp at hk; omega
        rw [b3 0 (by omega), if_pos (by simp)]
        simp [natV]
      · refine Calls.mono (show Calls Tryz.prog 216 #[.slice (some ⟨g, 0, none⟩) 0 cap, .int .i64 0, .slice (some ⟨vb, 0, none⟩) 1 1] w _ from Any2.slices_Insert_int_end_grow Tryz.laysIns (some ⟨g, 0, none⟩) 0 cap vb 0 1 1 [] [.int .i64 i] w (by omega) (by omega) (by omega) (by omega) rfl rfl (fun e => by cases e) (fun a e j v h => by simp at h) (one_at hvb) (one_one i)) ?_
        rintro e w' ⟨rfl, rfl⟩
        have hge := grownCap_ge w (0 + 1) cap 3
        have hle := grownCap_le_maxLen w (0 + 1) cap 3 (by unfold maxLen; omega)
        refine ⟨_, rfl, own_of_blk (Blk.new w.drew _ _) ?_ rfl hge hle hb ?_, (grown_dr w _).trans (World.grownBy_alloc _ _ _), .inr ⟨_, rfl, Nat.le_refl _⟩⟩
        · simp [zc_size]
          exact ins_sz hge
        · intro k hk
          obtain rfl : k = 0 := by simp at hk; omega
          show (#[Value.int .i64 i] ++ _)[0]? = _
          rw [Array.getElem?_append_left (by simp)]
          rfl
    · have hgv : g ≠ vb := fun e => hne (by rw [e]; rfl)
      have hcells : ∀ j v, (natV l)[j]? = some v → w.cell? ⟨g, 0 + j, none⟩ = some v := fun j v hj => by
        have := hc.cells (g := g) rfl j v hj
        rw [Addr.add_lit] at this
        exact this
      by_cases hr : l.length + 1 ≤ cap
      · refine Calls.mono (show Calls Tryz.prog 216 #[.slice (some ⟨g, 0, none⟩) l.length cap, .int .i64 0, .slice (some ⟨vb, 0, none⟩) 1 1] w _ from Any2.slices_Insert_int_shift Tryz.laysIns g 0 l.length cap 0 vb 0 1 1 (natV l) [.int .i64 i] w (by omega) (by omega) hr (by unfold maxLen at hcm; omega) (fun e => hgv e.symm) (natV_len l) rfl hcells ?_ ?_ (one_at hvb) (natV_one l) (one_one i) 3 3 1 cur.size ?_ ?_ (by omega) ?_ ?_) ?_
        · intro j hj
          rw [Blk.cell hg, Array.getElem?_eq_getElem (by omega)]
          rfl
        · intro j hj
          rw [Blk.free hg]
        · unfold World.shape?
          rw [show w.heap[vb]? = _ from hvb]
          rfl
        · unfold World.shape?
          rw [hg]
        · exact Blk.free hvb 0
        · exact Blk.free hvb 1
        rintro e w' ⟨rfl, rfl⟩
        obtain ⟨c1, b1, b2, b3⟩ := Blk.setCells ((natV l).drop 0) (0 + (0 + 1)) w.drew cur (Blk.drew hg)
        obtain ⟨c2, d1, d2, d3⟩ := Blk.setCells [.int .i64 i] (0 + 0) _ c1 b1
        refine ⟨_, rfl, own_of_blk d1 (by omega) (by simp [natV]) hr hcm hbg ?_, ((grown_dr w _).trans (grown_setCells _ _ _ _)).trans (grown_setCells _ _ _ _), .inl rfl⟩
        intro k hk
        rw [d3 k (by omega)]
        cases k with
        | zero => rw [if_pos (by simp)]; simp [natV]
        | succ k =>
          rw [if_neg (by simp), b3 (k + 1) (by omega), if_pos (by simp [natV_len]; omega)]
          simp [natV]
      · refine Calls.mono (show Calls Tryz.prog 216 #[.slice (some ⟨g, 0, none⟩) l.length cap, .int .i64 0, .slice (some ⟨vb, 0, none⟩) 1 1] w _ from Any2.slices_Insert_int_grow Tryz.laysIns g 0 l.length cap 0 vb 0 1 1 (natV l) [.int .i64 i] w (by omega) (by omega) hnc (by omega) (by omega) (natV_len l) rfl hcells (one_at hvb) (natV_one l) (one_one i)) ?_
        rintro e w' ⟨rfl, rfl⟩
        have hge := grownCap_ge w (l.length + 1) cap 3
        have hle := grownCap_le_maxLen w (l.length + 1) cap 3 (by unfold maxLen; omega)
        obtain ⟨c1, b1, b2, b3⟩ := Blk.setCells [.int .i64 i] 0 _ _ (Blk.drew (Blk.new w (((natV l).take 0).toArray ++ Builtin.zeroCells (Value.int .i64 0).cells (l.length + 1 - 0) ++ Builtin.zeroCells (Value.int .i64 0).cells (grownCap w (l.length + 1) cap 3 - (l.length + 1))) 3))
        obtain ⟨c2, d1, d2, d3⟩ := Blk.setCells ((natV l).drop 0) (0 + 1) _ c1 (Blk.drew b1)
        have hsz : c1.size = grownCap w (l.length + 1) cap 3 := by
          rw [b2]
          simp [zc_size]
          omega
        refine ⟨_, rfl, own_of_blk d1 (d2.trans hsz) (by simp [natV]) hge hle hb ?_, ?_, .inr ⟨_, rfl, Nat.le_refl _⟩⟩
        · intro k hk
          rw [d3 k (by omega)]
          cases k with
          | zero => rw [if_neg (by simp), b3 0 (by rw [← b2, hsz]; omega), if_pos (by simp)]; simp [natV]
          | succ k =>
            rw [if_pos (by simp [natV_len]; omega)]
            simp [natV]
        · refine World.grownBy.andThen (((World.grownBy_alloc w _ _).trans (grown_dr _ _))) (((grown_setCells _ _ _ _).trans (grown_dr _ _)).trans (grown_setCells _ _ _ _)) ?_
          intro j e
          injection e with e
          exact .inl (by omega)
/-- slices.Clone(row): a row of the call's own. -/
theorem Clone_ok (b : Nat) (v : Value) (l : List Nat) (w : World) (hown : w.ownsRow b 3 1 v l.length (natV l)) (hl : l.length ≤ 1000000) :
    Calls Tryz.prog 215 #[v] w fun e w' => ∃ v', e = .returned v' ∧ w'.ownsRow w.heap.size 3 1 v' l.length (natV l) ∧ Kept w w' := by
  have hc := hown
  obtain ⟨_, ⟨rfl, h0⟩ | ⟨g, cap, cur, rfl, hbg, hg, hnc, hcm, hcs, hxs⟩⟩ := hown
  · have hl0 : l = [] := List.eq_nil_of_length_eq_zero h0
    subst hl0
    refine (Tryz.slices_Clone_int_nil 0 0 w).mono ?_
    rintro e w' ⟨rfl, rfl⟩
    exact ⟨_, rfl, World.ownsRow_nil _ _ _ _, Kept.refl _⟩
  · refine (Tryz.slices_Clone_int g 0 l.length cap (l.map (fun n : Nat => (n : Int))) w (by simp) (by omega) ?_).mono ?_
    · intro j hj
      have hj2 : j < l.length := by simpa using hj
      have := hc.cells (g := g) rfl j (.int .i64 (l[j]! : Nat)) (by simp [natV, hj2])
      rw [Addr.add_lit] at this
      rw [this]
      simp [List.getD, hj2]
    rintro e w' ⟨v', rfl, ho, _, hk⟩
    refine ⟨v', rfl, ?_, hk⟩
    have e1 : ((l.map (fun n : Nat => (n : Int))).take l.length).map (Value.int .i64) = natV l := by
      rw [List.take_of_length_le (by simp)]
      simp [natV]
    rw [e1] at ho
    exact ho
end Go.Proofs.YtblaphkaklocfaaGreatDoor
/- Plain: rows that lie apart; a result that is stored cell by cell. -/
namespace Go.Proofs.YtblaphkaklocfaaGreatDoor
open Go.ChangeShapes Go.WideShapes Go.ChangeAt Go.RowKit Go.Maps
set_option maxHeartbeats 1000000
set_option maxRecDepth 20000

theorem owns_not_blk {w : World} {b n s k : Nat} {e t : TypeId} {v : Value} {xs : List Value} {cs : Array Value} (h : w.ownsRow b e s v n xs) (hk : Blk w k cs t) (hne : t ≠ e) : v.ownBlock ≠ some k := by
  obtain ⟨h1, ⟨rfl, _⟩ | ⟨g, cap, cur, rfl, h4, h5, h6⟩⟩ := h
  · intro e; cases e
  · intro e2
    have e3 : g = k := by injection e2
    subst e3
    rw [show w.heap[g]? = _ from hk] at h5
    injection h5 with h5
    injection h5 with _ h5 _
    exact hne h5
theorem ap_later {w1 w2 : World} {b1 b2 n n' s s' : Nat} {e e' : TypeId} {v1 v2 : Value} {xs xs' : List Value} (h1 : w1.ownsRow b1 e s v1 n xs) (h2 : w2.ownsRow b2 e' s' v2 n' xs') (hb : w1.heap.size ≤ b2) : Ap v1 v2 := by
  by_cases e : v1.ownBlock = none
  · exact .inl e
  · refine .inr (fun g => ?_)
    obtain ⟨k, hk⟩ := Option.ne_none_iff_exists'.1 e
    have a1 := (h1.lt k hk).2
    have a2 := (h2.lt k (g ▸ hk)).1
    omega
theorem own_set {w : World} {b n s R o : Nat} {e t : TypeId} {v : Value} {xs : List Value} {cs : Array Value} (h : w.ownsRow b e s v n xs) (hk : Blk w R cs t) (hne : t ≠ e) (u : Value) : (w.setCell ⟨R, o, none⟩ u).ownsRow b e s v n xs :=
  owns_grown h (grown_setC w R o u) (.inr (owns_not_blk h hk hne))
theorem set_keep {w : World} {b n s R : Nat} {e t : TypeId} {v : Value} {xs : List Value} {cs : Array Value} (h : w.ownsRow b e s v n xs ∧ Blk w R cs t) (hne : t ≠ e) (o : Nat) (u : Value) : (w.setCell ⟨R, o, none⟩ u).ownsRow b e s v n xs ∧ Blk (w.setCell ⟨R, o, none⟩ u) R (cs.setIfInBounds o u) t :=
  ⟨own_set h.1 h.2 hne u, h.2.set o u⟩
theorem blk_set {w : World} {R o : Nat} {t : TypeId} {cs cs' : Array Value} (h : Blk w R cs t) (u : Value) (e : cs.setIfInBounds o u = cs') : Blk (w.setCell ⟨R, o, none⟩ u) R cs' t := e ▸ h.set o u
theorem resst_set7 {w : World} {base R : Nat} {c o m : List Nat} {v1 v2 v3 x0 x1 x2 x3 x4 x5 x6 : Value} (hB : Blk w R #[x0, x1, x2, x3, x4, x5, x6] 168) (r1 : w.ownsRow base 3 1 v1 c.length (natV c)) (r2 : w.ownsRow base 3 1 v2 o.length (natV o))
    (r3 : w.ownsRow base 3 1 v3 m.length (natV m)) (a12 : Ap v1 v2) (a13 : Ap v1 v3) (a23 : Ap v2 v3) (w7 : World)
    (hw : w7 = ((((((w.setCell ⟨R, 0, none⟩ (.int .i64 0)).setCell ⟨R, 1, none⟩ (.int .i64 0)).setCell ⟨R, 2, none⟩ (.int .i64 0)).setCell ⟨R, 3, none⟩ (.string ⟨#[]⟩)).setCell ⟨R, 4, none⟩ v1).setCell ⟨R, 5, none⟩ v2).setCell ⟨R, 6, none⟩ v3) :
    ResSt base R default c o m v1 v2 v3 w7 := by
  have hne : 168 ≠ 3 := by decide
  subst hw
  have b1 := blk_set (o := 0) hB (.int .i64 0) rfl
  have b2 := blk_set (o := 1) b1 (.int .i64 0) rfl
  have b3 := blk_set (o := 2) b2 (.int .i64 0) rfl
  have b4 := blk_set (o := 3) b3 (.string ⟨#[]⟩) rfl
  have b5 := blk_set (o := 4) b4 v1 rfl
  have b6 := blk_set (o := 5) b5 v2 rfl
  have b7 := blk_set (o := 6) b6 v3 rfl
  refine ⟨b7, ?_, ?_, ?_, a12, a13, a23⟩
  · exact own_set (own_set (own_set (own_set (own_set (own_set (own_set r1 hB hne _) b1 hne _) b2 hne _) b3 hne _) b4 hne _) b5 hne _) b6 hne _
  · exact own_set (own_set (own_set (own_set (own_set (own_set (own_set r2 hB hne _) b1 hne _) b2 hne _) b3 hne _) b4 hne _) b5 hne _) b6 hne _
  · exact own_set (own_set (own_set (own_set (own_set (own_set (own_set r3 hB hne _) b1 hne _) b2 hne _) b3 hne _) b4 hne _) b5 hne _) b6 hne _
/-- Seven stores fill a block; rows of numbers lie apart from it. -/
theorem set7 {w : World} {R : Nat} {a0 a1 a2 a3 a4 a5 a6 : Value} (x0 x1 x2 x3 x4 x5 x6 : Value) (hB : Blk w R #[a0, a1, a2, a3, a4, a5, a6] 168) (w7 : World)
    (hw : w7 = ((((((w.setCell ⟨R, 0, none⟩ x0).setCell ⟨R, 1, none⟩ x1).setCell ⟨R, 2, none⟩ x2).setCell ⟨R, 3, none⟩ x3).setCell ⟨R, 4, none⟩ x4).setCell ⟨R, 5, none⟩ x5).setCell ⟨R, 6, none⟩ x6) :
    Blk w7 R #[x0, x1, x2, x3, x4, x5, x6] 168 ∧ ∀ (b n : Nat) (v : Value) (xs : List Value), w.ownsRow b 3 1 v n xs → w7.ownsRow b 3 1 v n xs := by
  have hne : 168 ≠ 3 := by decide
  subst hw
  have b1 := blk_set (o := 0) hB x0 rfl
  have b2 := blk_set (o := 1) b1 x1 rfl
  have b3 := blk_set (o := 2) b2 x2 rfl
  have b4 := blk_set (o := 3) b3 x3 rfl
  have b5 := blk_set (o := 4) b4 x4 rfl
  have b6 := blk_set (o := 5) b5 x5 rfl
  have b7 := blk_set (o := 6) b6 x6 rfl
  exact ⟨b7, fun b n v xs r1 => own_set (own_set (own_set (own_set (own_set (own_set (own_set r1 hB hne _) b1 hne _) b2 hne _) b3 hne _) b4 hne _) b5 hne _) b6 hne _⟩
theorem kept_set7 {w0 w : World} {R : Nat} (x0 x1 x2 x3 x4 x5 x6 : Value) (k : Kept w0 w) (h : w0.heap.size ≤ R) : Kept w0 (((((((w.setCell ⟨R, 0, none⟩ x0).setCell ⟨R, 1, none⟩ x1).setCell ⟨R, 2, none⟩ x2).setCell ⟨R, 3, none⟩ x3).setCell ⟨R, 4, none⟩ x4).setCell ⟨R, 5, none⟩ x5).setCell ⟨R, 6, none⟩ x6) :=
  Kept.setCell (Kept.setCell (Kept.setCell (Kept.setCell (Kept.setCell (Kept.setCell (Kept.setCell k h _) h _) h _) h _) h _) h _) h _
end Go.Proofs.YtblaphkaklocfaaGreatDoor
/- Contract: occurrence.Displace. -/
namespace Go.Proofs.YtblaphkaklocfaaGreatDoor
open Go.ChangeShapes Go.WideShapes Go.ChangeAt Go.RowKit Go.Maps
set_option maxHeartbeats 8000000
set_option maxRecDepth 20000

theorem Displace_ok (f : Int) (o o' : Option Addr) (q q' : Nat) (L M : List Rec) (w : World) (hM : IsRecs w o' M) (r : Res) (b0 : Nat) (v1 v2 v3 : Value)
    (h1 : w.ownsRow b0 3 1 v1 r.com.length (natV r.com)) (h2 : w.ownsRow b0 3 1 v2 r.omi.length (natV r.omi)) (h3 : w.ownsRow b0 3 1 v3 r.imp.length (natV r.imp))
    (l1 : r.com.length ≤ 1000) (l2 : r.omi.length ≤ 1000) (l3 : r.imp.length ≤ 1000) (hx : r.p.kind = 2 → r.p.idx < M.length) :
    Calls Tryz.prog 162 #[catV f o o' q q' L M, resV r.p v1 v2 v3] w fun e w' => ∃ u1 u2 u3, e = .returned (resV (displaceC M r).p u1 u2 u3) ∧ w'.ownsRow w.heap.size 3 1 u1 (displaceC M r).com.length (natV (displaceC M r).com) ∧
      w'.ownsRow w.heap.size 3 1 u2 (displaceC M r).omi.length (natV (displaceC M r).omi) ∧ (∃ o3 n3 c3, u3 = .slice o3 n3 c3) ∧ Kept w w' := by
  obtain ⟨a1, b1, rfl⟩ := owns_form h1
  obtain ⟨a2, b2, rfl⟩ := owns_form h2
  obtain ⟨a3, b3, rfl⟩ := owns_form h3
  obtain ⟨p, com, omi, imp⟩ := r
  obtain ⟨pk, pi, pr, ps⟩ := p
  dsimp only at h1 h2 h3 l1 l2 l3 hx
  unfold resV catV
  dsimp only
  go_enter Tryz.func162, Tryz.ntmps162
  go_upto_region 1 with fail
  obtain ⟨W, hW⟩ : ∃ x, x = ((w.alloc (.cells #[.int .i64 f, .slice o L.length q, .slice o' M.length q'] 45)).alloc (.cells #[.int .i64 pk, .int .i64 pi, .int .i64 pr, .string ps, .slice a1 com.length b1, .slice a2 omi.length b2, .slice a3 imp.length b3] 168)).alloc (.cells #[.int .i64 0, .int .i64 0, .int .i64 0, .string ⟨#[]⟩, .slice none 0 0, .slice none 0 0, .slice none 0 0] 168) := ⟨_, rfl⟩
  rw [← hW]
  have hkW : Kept w W := by rw [hW]; exact ((((Kept.refl w).alloc _).alloc _).alloc _)
  have hzW : W.heap.size = w.heap.size + 3 := by rw [hW]; simp
  have bA : Blk W w.heap.size #[.int .i64 f, .slice o L.length q, .slice o' M.length q'] 45 := by rw [hW]; exact ((Blk.new w _ _).alloc _).alloc _
  have bB : Blk W (w.heap.size + 1) #[.int .i64 pk, .int .i64 pi, .int .i64 pr, .string ps, .slice a1 com.length b1, .slice a2 omi.length b2, .slice a3 imp.length b3] 168 := by rw [hW]; have := (Blk.new (w.alloc (.cells #[.int .i64 f, .slice o L.length q, .slice o' M.length q'] 45)) #[.int .i64 pk, .int .i64 pi, .int .i64 pr, .string ps, .slice a1 com.length b1, .slice a2 omi.length b2, .slice a3 imp.length b3] 168).alloc (.cells #[.int .i64 0, .int .i64 0, .int .i64 0, .string ⟨#[]⟩, .slice none 0 0, .slice none 0 0, .slice none 0 0] 168); simpa using this
  have bC : Blk W (w.heap.size + 1 + 1) #[.int .i64 0, .int .i64 0, .int .i64 0, .string ⟨#[]⟩, .slice none 0 0, .slice none 0 0, .slice none 0 0] 168 := by rw [hW]; have := (Blk.new ((w.alloc (.cells #[.int .i64 f, .slice o L.length q, .slice o' M.length q'] 45)).alloc (.cells #[.int .i64 pk, .int .i64 pi, .int .i64 pr, .string ps, .slice a1 com.length b1, .slice a2 omi.length b2, .slice a3 imp.length b3] 168)) #[.int .i64 0, .int .i64 0, .int .i64 0, .string ⟨#[]⟩, .slice none 0 0, .slice none 0 0, .slice none 0 0] 168); simpa using this
  clear hW
  have x0 : W.cell? ⟨w.heap.size + 1, 0, none⟩ = some (.int .i64 pk) := by rw [bB.cell]; rfl
  have x1 : W.cell? ⟨w.heap.size + 1, 1, none⟩ = some (.int .i64 pi) := by rw [bB.cell]; rfl
  have x4 : W.cell? ⟨w.heap.size + 1, 4, none⟩ = some (.slice a1 com.length b1) := by rw [bB.cell]; rfl
  have x5 : W.cell? ⟨w.heap.size + 1, 5, none⟩ = some (.slice a2 omi.length b2) := by rw [bB.cell]; rfl
  have x6 : W.cell? ⟨w.heap.size + 1, 6, none⟩ = some (.slice a3 imp.length b3) := by rw [bB.cell]; rfl
  have y2 : W.cell? ⟨w.heap.size, 2, none⟩ = some (.slice o' M.length q') := by rw [bA.cell]; rfl
  have HC := Lib.hid bC
  have K1 := Lib.hid (fun W' (k : Kept W W') => Clone_ok b0 _ com W' (owns_kept h1 (hkW.trans k)) (by omega))
  have K2 := Lib.hid (fun W' (k : Kept W W') => Clone_ok b0 _ omi W' (owns_kept h2 (hkW.trans k)) (by omega))
  have K3 := Lib.hid (fun W' (k : Kept W W') => Clone_ok b0 _ imp W' (owns_kept h3 (hkW.trans k)) (by omega))
  have HM := Lib.hid hM
  have e0 : w.heap.size < W.heap.size := by omega
  have e1 : w.heap.size + 1 < W.heap.size := by omega
  have HZ := Lib.hid hzW
  clear bA bB bC h1 h2 h3 hM hzW
  go_cut [5] (fun s5 wx => ∃ (R : Nat) (u1 u2 u3 : Value), s5 = .pointer (some ⟨R, 0, none⟩) ∧ Hid (ResSt W.heap.size R default com omi imp u1 u2 u3 wx) ∧ W.heap.size ≤ R ∧ Kept W wx)
  case first =>
    go_region_held3 (fun w' => Kept W w' ∧ (∀ b o, b < W.heap.size → w'.cell? ⟨b, o, none⟩ = W.cell? ⟨b, o, none⟩)) (exact held_of (by (repeat (first | with_reducible assumption | with_reducible exact Kept.refl _ | with_reducible apply Kept.drew | with_reducible apply Kept.alloc | (with_reducible refine Kept.setCell ?_ (by first | exact Nat.le_refl _ | (dsimp only; omega)) _))))) (first
      | (go_at_call_of 215 (Value.slice a1 com.length b1); (with_reducible refine (K1.out _ ?_).mono ?_); (· (repeat (first | with_reducible assumption | with_reducible exact Kept.refl _ | with_reducible apply Kept.drew | with_reducible apply Kept.alloc | (with_reducible refine Kept.setCell ?_ (by first | exact Nat.le_refl _ | (dsimp only; omega)) _)))); rintro e W1 ⟨u1, rfl, ho1, hk1⟩; obtain ⟨p1, g1, rfl⟩ := owns_form ho1; have kk1 : Kept W W1 := Kept.trans (by (repeat (first | with_reducible assumption | with_reducible exact Kept.refl _ | with_reducible apply Kept.drew | with_reducible apply Kept.alloc | (with_reducible refine Kept.setCell ?_ (by first | exact Nat.le_refl _ | (dsimp only; omega)) _)))) hk1; have sz1 := kk1.size; (try ((first | have bR1 := (Blk.new _ _ _).kept hk1 | have bR1 := (Blk.drew (Blk.new _ _ _)).kept hk1))))
      | (go_at_call_of 215 (Value.slice a2 omi.length b2); (with_reducible refine (K2.out _ ?_).mono ?_); (· (repeat (first | with_reducible assumption | with_reducible exact Kept.refl _ | with_reducible apply Kept.drew | with_reducible apply Kept.alloc | (with_reducible refine Kept.setCell ?_ (by first | exact Nat.le_refl _ | (dsimp only; omega)) _)))); rintro e W2 ⟨u2, rfl, ho2, hk2⟩; obtain ⟨p2, g2, rfl⟩ := owns_form ho2; have kk2 : Kept W W2 := Kept.trans (by (repeat (first | with_reducible assumption | with_reducible exact Kept.refl _ | with_reducible apply Kept.drew | with_reducible apply Kept.alloc | (with_reducible refine Kept.setCell ?_ (by first | exact Nat.le_refl _ | (dsimp only; omega)) _)))) hk2; have sz2 := kk2.size; (try (first | have bR2 := bR1.kept hk2 | (first | have bR2 := (Blk.new _ _ _).kept hk2 | have bR2 := (Blk.drew (Blk.new _ _ _)).kept hk2))))
      | (go_at_call_of 215 (Value.slice a3 imp.length b3); (with_reducible refine (K3.out _ ?_).mono ?_); (· (repeat (first | with_reducible assumption | with_reducible exact Kept.refl _ | with_reducible apply Kept.drew | with_reducible apply Kept.alloc | (with_reducible refine Kept.setCell ?_ (by first | exact Nat.le_refl _ | (dsimp only; omega)) _)))); rintro e W3 ⟨u3, rfl, ho3, hk3⟩; obtain ⟨p3, g3, rfl⟩ := owns_form ho3; have kk3 : Kept W W3 := Kept.trans (by (repeat (first | with_reducible assumption | with_reducible exact Kept.refl _ | with_reducible apply Kept.drew | with_reducible apply Kept.alloc | (with_reducible refine Kept.setCell ?_ (by first | exact Nat.le_refl _ | (dsimp only; omega)) _)))) hk3; have sz3 := kk3.size; (try (first | have bR3 := bR2.kept hk3 | (first | have bR3 := (Blk.new _ _ _).kept hk3 | have bR3 := (Blk.drew (Blk.new _ _ _)).kept hk3))); (try (have d0 := (bR3.cell 0).trans (show _ = some (Value.int .i64 0) from rfl); have d1 := (bR3.cell 1).trans (show _ = some (Value.int .i64 0) from rfl); have d2 := (bR3.cell 2).trans (show _ = some (Value.int .i64 0) from rfl); have d3 := (bR3.cell 3).trans (show _ = some (Value.string ⟨#[]⟩) from rfl); have d4 := (bR3.cell 4).trans (show _ = some (Value.slice none 0 0) from rfl); have d5 := (bR3.cell 5).trans (show _ = some (Value.slice none 0 0) from rfl); have d6 := (bR3.cell 6).trans (show _ = some (Value.slice none 0 0) from rfl); have f0 := bR3.free 0; have f1 := bR3.free 1; have f2 := bR3.free 2; have f3 := bR3.free 3; have f4 := bR3.free 4; have f5 := bR3.free 5; have f6 := bR3.free 6; have hlR := bR3.lt))))
    all_goals (go_wp2_with fail; go_meet)
    all_goals have st2 := hk2.size
    all_goals have st3 := hk3.size
    all_goals have st1 := hk1.size
    all_goals (try simp only [World.size_alloc, World.size_drew] at st1 st2 st3)
    · refine ⟨_, _, _, _, rfl, Lib.hid ⟨Blk.new W3 _ _, ?_, ?_, ?_, ap_later ho1 ho2 ?_, ap_later ho1 ho3 ?_, ap_later ho2 ho3 ?_⟩, sz3, kk3.alloc _⟩
      · exact owns_base (owns_kept ho1 (by (repeat (first | with_reducible exact Kept.refl _ | with_reducible apply Kept.drew | with_reducible apply Kept.alloc | (with_reducible refine Kept.setCell ?_ (by dsimp only; omega) _) | with_reducible refine Kept.trans ?_ hk3 | with_reducible refine Kept.trans ?_ hk2)))) (by ((try simp only [World.size_alloc, World.size_drew]); first | done | omega))
      · exact owns_base (owns_kept ho2 (by (repeat (first | with_reducible exact Kept.refl _ | with_reducible apply Kept.drew | with_reducible apply Kept.alloc | (with_reducible refine Kept.setCell ?_ (by dsimp only; omega) _) | with_reducible refine Kept.trans ?_ hk3 | with_reducible refine Kept.trans ?_ hk2)))) (by ((try simp only [World.size_alloc, World.size_drew]); first | done | omega))
      · exact owns_base (owns_kept ho3 (by (repeat (first | with_reducible exact Kept.refl _ | with_reducible apply Kept.drew | with_reducible apply Kept.alloc | (with_reducible refine Kept.setCell ?_ (by dsimp only; omega) _) | with_reducible refine Kept.trans ?_ hk3 | with_reducible refine Kept.trans ?_ hk2)))) (by ((try simp only [World.size_alloc, World.size_drew]); first | done | omega))
      all_goals ((try simp only [World.size_alloc, World.size_drew]); first | done | omega)
    all_goals (
      refine ⟨_, _, _, _, rfl, Lib.hid (resst_set7 bR3 ?_ ?_ ?_ (ap_later ho1 ho2 ?_) (ap_later ho1 ho3 ?_) (ap_later ho2 ho3 ?_) _ rfl), ?_, ?_⟩
      · exact owns_base (owns_kept ho1 (by (repeat (first | with_reducible exact Kept.refl _ | with_reducible apply Kept.drew | with_reducible apply Kept.alloc | (with_reducible refine Kept.setCell ?_ (by dsimp only; omega) _) | with_reducible refine Kept.trans ?_ hk3 | with_reducible refine Kept.trans ?_ hk2)))) (by ((try simp only [World.size_alloc, World.size_drew]); first | done | omega))
      · exact owns_base (owns_kept ho2 (by (repeat (first | with_reducible exact Kept.refl _ | with_reducible apply Kept.drew | with_reducible apply Kept.alloc | (with_reducible refine Kept.setCell ?_ (by dsimp only; omega) _) | with_reducible refine Kept.trans ?_ hk3 | with_reducible refine Kept.trans ?_ hk2)))) (by ((try simp only [World.size_alloc, World.size_drew]); first | done | omega))
      · exact owns_base (owns_kept ho3 (by (repeat (first | with_reducible exact Kept.refl _ | with_reducible apply Kept.drew | with_reducible apply Kept.alloc | (with_reducible refine Kept.setCell ?_ (by dsimp only; omega) _) | with_reducible refine Kept.trans ?_ hk3 | with_reducible refine Kept.trans ?_ hk2)))) (by ((try simp only [World.size_alloc, World.size_drew]); first | done | omega))
      · ((try simp only [World.size_alloc, World.size_drew]); first | done | omega)
      · ((try simp only [World.size_alloc, World.size_drew]); first | done | omega)
      · ((try simp only [World.size_alloc, World.size_drew]); first | done | omega)
      · ((try simp only [World.size_alloc, World.size_drew]); first | done | omega)
      · (repeat (first | with_reducible assumption | with_reducible exact Kept.refl _ | with_reducible apply Kept.drew | with_reducible apply Kept.alloc | (with_reducible refine Kept.setCell ?_ (by first | exact Nat.le_refl _ | (dsimp only; omega)) _))))
  case rest =>
    obtain ⟨R, u1, u2, u3, rfl, HS, hRz, hkx⟩ := hcut
    obtain ⟨p1, g1, rfl⟩ := owns_form HS.out.r1
    obtain ⟨p2, g2, rfl⟩ := owns_form HS.out.r2
    obtain ⟨p3, g3, rfl⟩ := owns_form HS.out.r3
    have z0 := (hkx.cell _ 0 e1).trans x0
    have z1 := (hkx.cell _ 1 e1).trans x1
    have t2 := (hkx.cell _ 2 e0).trans y2
    have bC := HC.out.kept hkx
    have hRl := HS.out.blk.lt
    have r0 : wc.cell? ⟨R, 0, none⟩ = some (.int .i64 0) := by rw [HS.out.blk.cell]; rfl
    have r1 : wc.cell? ⟨R, 1, none⟩ = some (.int .i64 0) := by rw [HS.out.blk.cell]; rfl
    have r2 : wc.cell? ⟨R, 2, none⟩ = some (.int .i64 0) := by rw [HS.out.blk.cell]; rfl
    have r3 : wc.cell? ⟨R, 3, none⟩ = some (.string ⟨#[]⟩) := by rw [HS.out.blk.cell]; rfl
    have r4 : wc.cell? ⟨R, 4, none⟩ = some (.slice p1 com.length g1) := by rw [HS.out.blk.cell]; rfl
    have r5 : wc.cell? ⟨R, 5, none⟩ = some (.slice p2 omi.length g2) := by rw [HS.out.blk.cell]; rfl
    have r6 : wc.cell? ⟨R, 6, none⟩ = some (.slice p3 imp.length g3) := by rw [HS.out.blk.cell]; rfl
    have HKX := Lib.hid hkx
    have HBC := Lib.hid bC
    clear K1 K2 K3 x0 x1 x4 x5 x6 y2 bC hkx
    have hlC := HBC.out.lt
    have hRC : R ≠ w.heap.size + 1 + 1 := by have := HZ.out; omega
    by_cases hk2 : pk = 2
    · subst hk2
      obtain ⟨b, off, rfl, c0, c1, c2, c3, c4, c5, c6, c7, c8⟩ := (HM.out.kept (hkW.trans HKX.out)).cells pi (hx rfl)
      have hD : Hid (displaceC M ⟨⟨2, pi, pr, ps⟩, com, omi, imp⟩ = if (M[pi]!).b = 3 then ⟨default, com, pi :: omi, imp⟩ else ⟨default, pi :: com, omi, imp⟩) := (show _ = _ from by unfold displaceC; rw [if_pos rfl]; rfl)
      have hxp := hx rfl
      have hxz : (pi : Int) < (M.length : Int) := by omega
      generalize (M[pi]!).b = pol at *
      clear c0 c1 c3 c4 c5 c6 c7 c8 hx
      by_cases hp : pol = 3
      · subst hp
        rw [if_pos rfl] at hD
        go_wp2_with fail
        refine (Ins0_ok W.heap.size (.slice p2 omi.length g2) omi pi _ (HS.out.r2.alloc _) (by omega) wc.heap.size (Blk.new wc _ _) (fun e => by have := (HS.out.r2.lt _ e).2; omega) (by simp; have := HKX.out.size; omega)).mono ?_
        rintro e w5 ⟨v5, rfl, hown5, hgr5, -⟩
        obtain ⟨p5, g5, rfl⟩ := owns_form hown5
        have b5 := (HS.out.blk.alloc (.cells #[.int .i64 pi] 3)).grown hgr5 (fun e => owns_not_blk HS.out.r2 HS.out.blk (by decide) e.symm)
        have c5 := (HBC.out.alloc (.cells #[.int .i64 pi] 3)).grown hgr5 (fun e => owns_not_blk HS.out.r2 HBC.out (by decide) e.symm)
        have o5 := owns_grown (HS.out.r1.alloc (.cells #[.int .i64 pi] 3)) hgr5 (show _ ∨ _ from HS.out.a12)
        have k5 : Hid (Kept w w5) := Below.grown ((hkW.trans HKX.out).alloc _) hgr5 (by simp; have := HKX.out.size; have := HZ.out; omega) (fun q e => by have := (HS.out.r2.lt q e).1; have := HZ.out; omega)
        have hl5 := b5.lt
        have hc5 := c5.lt
        have m0 : w5.cell? ⟨R, 0, none⟩ = some (.int .i64 0) := by rw [b5.cell]; rfl
        have n0 : w5.cell? ⟨w.heap.size + 1 + 1, 0, none⟩ = some (.int .i64 0) := by rw [c5.cell]; rfl
        have f0 := c5.free 0
        have m1 : w5.cell? ⟨R, 1, none⟩ = some (.int .i64 0) := by rw [b5.cell]; rfl
        have n1 : w5.cell? ⟨w.heap.size + 1 + 1, 1, none⟩ = some (.int .i64 0) := by rw [c5.cell]; rfl
        have f1 := c5.free 1
        have m2 : w5.cell? ⟨R, 2, none⟩ = some (.int .i64 0) := by rw [b5.cell]; rfl
        have n2 : w5.cell? ⟨w.heap.size + 1 + 1, 2, none⟩ = some (.int .i64 0) := by rw [c5.cell]; rfl
        have f2 := c5.free 2
        have m3 : w5.cell? ⟨R, 3, none⟩ = some (.string ⟨#[]⟩) := by rw [b5.cell]; rfl
        have n3 : w5.cell? ⟨w.heap.size + 1 + 1, 3, none⟩ = some (.string ⟨#[]⟩) := by rw [c5.cell]; rfl
        have f3 := c5.free 3
        have m4 : w5.cell? ⟨R, 4, none⟩ = some (.slice p1 com.length g1) := by rw [b5.cell]; rfl
        have n4 : w5.cell? ⟨w.heap.size + 1 + 1, 4, none⟩ = some (.slice none 0 0) := by rw [c5.cell]; rfl
        have f4 := c5.free 4
        have m5 : w5.cell? ⟨R, 5, none⟩ = some (.slice p2 omi.length g2) := by rw [b5.cell]; rfl
        have n5 : w5.cell? ⟨w.heap.size + 1 + 1, 5, none⟩ = some (.slice none 0 0) := by rw [c5.cell]; rfl
        have f5 := c5.free 5
        have m6 : w5.cell? ⟨R, 6, none⟩ = some (.slice p3 imp.length g3) := by rw [b5.cell]; rfl
        have n6 : w5.cell? ⟨w.heap.size + 1 + 1, 6, none⟩ = some (.slice none 0 0) := by rw [c5.cell]; rfl
        have f6 := c5.free 6
        have fR := b5.free 5
        have HB5 := Lib.hid b5
        have HC5 := Lib.hid c5
        have HO5 := Lib.hid o5
        have HN5 := Lib.hid hown5
        clear b5 c5 o5 hown5 hgr5 r0 r1 r2 r3 r4 r5 r6 z1 t2
        go_wp2
        obtain ⟨B, hr⟩ := set7 (.int .i64 0) (.int .i64 0) (.int .i64 0) (.string ⟨#[]⟩) (.slice p1 com.length g1) (.slice p5 (omi.length + 1) g5) (.slice p3 imp.length g3) (HC5.out.other (Ne.symm hRC) 5 (.slice p5 (omi.length + 1) g5)) _ rfl
        have q0 := B.cell 0
        have q1 := B.cell 1
        have q2 := B.cell 2
        have q3 := B.cell 3
        have q4 := B.cell 4
        have q5 := B.cell 5
        have q6 := B.cell 6
        refine bodyPost_ret (v := .agg #[.int .i64 0, .int .i64 0, .int .i64 0, .string ⟨#[]⟩, .slice p1 com.length g1, .slice p5 (omi.length + 1) g5, .slice p3 imp.length g3]) (by simp [results, Tryz.results162, go_sem, q0, q1, q2, q3, q4, q5, q6]) rfl ?_
        rw [hD.out]
        have hz := HZ.out
        have ra := hr _ _ _ _ (owns_base (b2 := w.heap.size) (own_set HN5.out HB5.out (by decide) (o := 5) (.slice p5 (omi.length + 1) g5)) (by omega))
        have rb := hr _ _ _ _ (owns_base (b2 := w.heap.size) (own_set HO5.out HB5.out (by decide) (o := 5) (.slice p5 (omi.length + 1) g5)) (by omega))
        exact ⟨_, _, _, rfl, rb, ra, ⟨_, _, _, rfl⟩, kept_set7 _ _ _ _ _ _ _ (Kept.setCell k5.out (by dsimp only; omega) _) (by omega)⟩
      · rw [if_neg hp] at hD
        go_wp2_with fail
        refine (Ins0_ok W.heap.size (.slice p1 com.length g1) com pi _ (HS.out.r1.alloc _) (by omega) wc.heap.size (Blk.new wc _ _) (fun e => by have := (HS.out.r1.lt _ e).2; omega) (by simp; have := HKX.out.size; omega)).mono ?_
        rintro e w5 ⟨v5, rfl, hown5, hgr5, -⟩
        obtain ⟨p5, g5, rfl⟩ := owns_form hown5
        have b5 := (HS.out.blk.alloc (.cells #[.int .i64 pi] 3)).grown hgr5 (fun e => owns_not_blk HS.out.r1 HS.out.blk (by decide) e.symm)
        have c5 := (HBC.out.alloc (.cells #[.int .i64 pi] 3)).grown hgr5 (fun e => owns_not_blk HS.out.r1 HBC.out (by decide) e.symm)
        have o5 := owns_grown (HS.out.r2.alloc (.cells #[.int .i64 pi] 3)) hgr5 (show _ ∨ _ from HS.out.a12.symm)
        have k5 : Hid (Kept w w5) := Below.grown ((hkW.trans HKX.out).alloc _) hgr5 (by simp; have := HKX.out.size; have := HZ.out; omega) (fun q e => by have := (HS.out.r1.lt q e).1; have := HZ.out; omega)
        have hl5 := b5.lt
        have hc5 := c5.lt
        have m0 : w5.cell? ⟨R, 0, none⟩ = some (.int .i64 0) := by rw [b5.cell]; rfl
        have n0 : w5.cell? ⟨w.heap.size + 1 + 1, 0, none⟩ = some (.int .i64 0) := by rw [c5.cell]; rfl
        have f0 := c5.free 0
        have m1 : w5.cell? ⟨R, 1, none⟩ = some (.int .i64 0) := by rw [b5.cell]; rfl
        have n1 : w5.cell? ⟨w.heap.size + 1 + 1, 1, none⟩ = some (.int .i64 0) := by rw [c5.cell]; rfl
        have f1 := c5.free 1
        have m2 : w5.cell? ⟨R, 2, none⟩ = some (.int .i64 0) := by rw [b5.cell]; rfl
        have n2 : w5.cell? ⟨w.heap.size + 1 + 1, 2, none⟩ = some (.int .i64 0) := by rw [c5.cell]; rfl
        have f2 := c5.free 2
        have m3 : w5.cell? ⟨R, 3, none⟩ = some (.string ⟨#[]⟩) := by rw [b5.cell]; rfl
        have n3 : w5.cell? ⟨w.heap.size + 1 + 1, 3, none⟩ = some (.string ⟨#[]⟩) := by rw [c5.cell]; rfl
        have f3 := c5.free 3
        have m4 : w5.cell? ⟨R, 4, none⟩ = some (.slice p1 com.length g1) := by rw [b5.cell]; rfl
        have n4 : w5.cell? ⟨w.heap.size + 1 + 1, 4, none⟩ = some (.slice none 0 0) := by rw [c5.cell]; rfl
        have f4 := c5.free 4
        have m5 : w5.cell? ⟨R, 5, none⟩ = some (.slice p2 omi.length g2) := by rw [b5.cell]; rfl
        have n5 : w5.cell? ⟨w.heap.size + 1 + 1, 5, none⟩ = some (.slice none 0 0) := by rw [c5.cell]; rfl
        have f5 := c5.free 5
        have m6 : w5.cell? ⟨R, 6, none⟩ = some (.slice p3 imp.length g3) := by rw [b5.cell]; rfl
        have n6 : w5.cell? ⟨w.heap.size + 1 + 1, 6, none⟩ = some (.slice none 0 0) := by rw [c5.cell]; rfl
        have f6 := c5.free 6
        have fR := b5.free 4
        have HB5 := Lib.hid b5
        have HC5 := Lib.hid c5
        have HO5 := Lib.hid o5
        have HN5 := Lib.hid hown5
        clear b5 c5 o5 hown5 hgr5 r0 r1 r2 r3 r4 r5 r6 z1 t2
        go_wp2
        obtain ⟨B, hr⟩ := set7 (.int .i64 0) (.int .i64 0) (.int .i64 0) (.string ⟨#[]⟩) (.slice p5 (com.length + 1) g5) (.slice p2 omi.length g2) (.slice p3 imp.length g3) (HC5.out.other (Ne.symm hRC) 4 (.slice p5 (com.length + 1) g5)) _ rfl
        have q0 := B.cell 0
        have q1 := B.cell 1
        have q2 := B.cell 2
        have q3 := B.cell 3
        have q4 := B.cell 4
        have q5 := B.cell 5
        have q6 := B.cell 6
        refine bodyPost_ret (v := .agg #[.int .i64 0, .int .i64 0, .int .i64 0, .string ⟨#[]⟩, .slice p5 (com.length + 1) g5, .slice p2 omi.length g2, .slice p3 imp.length g3]) (by simp [results, Tryz.results162, go_sem, q0, q1, q2, q3, q4, q5, q6]) rfl ?_
        rw [hD.out]
        have hz := HZ.out
        have ra := hr _ _ _ _ (owns_base (b2 := w.heap.size) (own_set HN5.out HB5.out (by decide) (o := 4) (.slice p5 (com.length + 1) g5)) (by omega))
        have rb := hr _ _ _ _ (owns_base (b2 := w.heap.size) (own_set HO5.out HB5.out (by decide) (o := 4) (.slice p5 (com.length + 1) g5)) (by omega))
        exact ⟨_, _, _, rfl, ra, rb, ⟨_, _, _, rfl⟩, kept_set7 _ _ _ _ _ _ _ (Kept.setCell k5.out (by dsimp only; omega) _) (by omega)⟩
    · have hD : Hid (displaceC M ⟨⟨pk, pi, pr, ps⟩, com, omi, imp⟩ = ⟨default, com, omi, imp⟩) := (show _ = _ from by unfold displaceC; rw [if_neg hk2])
      have s0 : wc.cell? ⟨w.heap.size + 1 + 1, 0, none⟩ = some (.int .i64 0) := by rw [HBC.out.cell]; rfl
      have f0 := HBC.out.free 0
      have s1 : wc.cell? ⟨w.heap.size + 1 + 1, 1, none⟩ = some (.int .i64 0) := by rw [HBC.out.cell]; rfl
      have f1 := HBC.out.free 1
      have s2 : wc.cell? ⟨w.heap.size + 1 + 1, 2, none⟩ = some (.int .i64 0) := by rw [HBC.out.cell]; rfl
      have f2 := HBC.out.free 2
      have s3 : wc.cell? ⟨w.heap.size + 1 + 1, 3, none⟩ = some (.string ⟨#[]⟩) := by rw [HBC.out.cell]; rfl
      have f3 := HBC.out.free 3
      have s4 : wc.cell? ⟨w.heap.size + 1 + 1, 4, none⟩ = some (.slice none 0 0) := by rw [HBC.out.cell]; rfl
      have f4 := HBC.out.free 4
      have s5 : wc.cell? ⟨w.heap.size + 1 + 1, 5, none⟩ = some (.slice none 0 0) := by rw [HBC.out.cell]; rfl
      have f5 := HBC.out.free 5
      have s6 : wc.cell? ⟨w.heap.size + 1 + 1, 6, none⟩ = some (.slice none 0 0) := by rw [HBC.out.cell]; rfl
      have f6 := HBC.out.free 6
      go_wp2
      obtain ⟨B, hr⟩ := set7 (.int .i64 0) (.int .i64 0) (.int .i64 0) (.string ⟨#[]⟩) (.slice p1 com.length g1) (.slice p2 omi.length g2) (.slice p3 imp.length g3) HBC.out _ rfl
      have q0 := B.cell 0
      have q1 := B.cell 1
      have q2 := B.cell 2
      have q3 := B.cell 3
      have q4 := B.cell 4
      have q5 := B.cell 5
      have q6 := B.cell 6
      refine bodyPost_ret (v := .agg #[.int .i64 0, .int .i64 0, .int .i64 0, .string ⟨#[]⟩, .slice p1 com.length g1, .slice p2 omi.length g2, .slice p3 imp.length g3]) (by simp [results, Tryz.results162, go_sem, q0, q1, q2, q3, q4, q5, q6]) rfl ?_
      rw [hD.out]
      have hz := HZ.out
      exact ⟨_, _, _, rfl, hr _ _ _ _ (owns_base HS.out.r1 (by omega)), hr _ _ _ _ (owns_base HS.out.r2 (by omega)), ⟨_, _, _, rfl⟩, kept_set7 _ _ _ _ _ _ _ (hkW.trans HKX.out) (by omega)⟩
end Go.Proofs.YtblaphkaklocfaaGreatDoor
/- Contract: ordo's ids. -/
namespace Go.Proofs.YtblaphkaklocfaaGreatDoor
open Go.ChangeShapes Go.WideShapes Go.ChangeAt Go.RowKit Go.Maps
set_option maxHeartbeats 4000000
set_option maxRecDepth 20000

theorem info_string : (Tryz.prog.info? 9).map (fun i => (i.zero, i.size, i.bytes)) = some (some (.string ⟨#[]⟩), 1, 16) := by kernel_rfl
def strV (l : List ByteArray) : List Value := l.map Value.string
theorem strV_snoc (l : List ByteArray) (s : ByteArray) : strV (l ++ [s]) = strV l ++ [.string s] := by simp [strV]
theorem idsC_take (M : List Rec) (l : List Nat) (k : Nat) (h : k < l.length) : idsC M (l.take (k + 1)) = idsC M (l.take k) ++ [(M[l[k]!]!).s] := by
  have e : l.take (k + 1) = l.take k ++ [l[k]!] := by rw [List.take_add_one, List.getElem?_eq_getElem h, getElem!_pos l k h]; rfl
  rw [e, idsC, List.map_append]
  rfl
theorem ids_ok (o' : Option Addr) (q' : Nat) (M : List Rec) (w : World) (hM : IsRecs w o' M) (P : Nat) (hc : w.cell? ⟨P, 2, none⟩ = some (.slice o' M.length q')) (l : List Nat) (b0 : Nat) (v : Value) (hv : w.ownsRow b0 3 1 v l.length (natV l))
    (hl : l.length ≤ 100000) (hx : ∀ i ∈ l, i < M.length) :
    Calls Tryz.prog 163 #[.pointer (some ⟨P, 0, none⟩), v] w fun e w' => ∃ v', e = .returned v' ∧ w'.ownsRow w.heap.size 9 1 v' l.length (strV (idsC M l)) ∧ Kept w w' := by
  obtain ⟨i0, hi, hz0, hz1, hz2⟩ := info_parts info_string
  obtain ⟨oV, cV, rfl⟩ := owns_form hv
  have hlP := lt_cellL hc
  have HV := Lib.hid hv
  have HC := Lib.hid hc
  have HM := Lib.hid hM
  have HX := Lib.hid (fun k (h : k < l.length) => hx l[k]! (by rw [getElem!_pos l k h]; exact List.getElem_mem h))
  have HT := Lib.hid (idsC_take M l)
  have HE := Lib.hid (show l.take l.length = l from List.take_length)
  clear hv hc hM hx
  go_enter Tryz.func163, Tryz.ntmps163
  go_wp2
  go_loopw [5, 10] (fun v i wr => ∃ k : Nat, k ≤ l.length ∧ i = .int .i64 k ∧ Hid (wr.ownsRow w.heap.size 9 1 v k (strV (idsC M (l.take k)))) ∧ Kept w wr) (fun _ i _ => (l.length - intOf i).toNat)
  case atStart => exact ⟨0, by omega, rfl, Lib.hid (World.ownsRow_nil _ _ _ _), (by repeat (first | with_reducible exact Kept.refl _ | with_reducible assumption | with_reducible refine Kept.drew ?_ | with_reducible refine Kept.drewN ?_ _ | with_reducible refine Kept.alloc ?_ _ | (with_reducible refine Kept.setCell ?_ (by first | exact Nat.le_refl _ | omega | (simp; done) | (simp; omega)) _) | (with_reducible refine Kept.trans ?_ (by with_reducible assumption))))⟩
  case round =>
    obtain ⟨k, hk, rfl, HO, hkr⟩ := hrel
    obtain ⟨oo, cc, rfl⟩ := owns_form HO.out
    by_cases hlt : k < l.length
    · obtain ⟨g, c, e1, _, hg, hcd⟩ := row_at (owns_kept HV.out hkr) (by omega)
      have cd := hcd k hlt
      rw [nat_at l k hlt] at cd
      simp only [Value.slice.injEq, true_and] at e1
      obtain ⟨rfl, rfl⟩ := e1
      have hxk := HX.out k hlt
      have HTk := Lib.hid (HT.out k hlt)
      have c2 := (hkr.cell _ _ hlP).trans HC.out
      generalize l[k]! = i at *
      obtain ⟨b, off, e3, c0, -⟩ := (HM.out.kept hkr).cells i hxk
      subst e3
      generalize (M[i]!).s = s at *
      have hxz : (i : Int) < (M.length : Int) := by omega
      have hkz : (k : Int) < (l.length : Int) := by omega
      clear hcd
      have hown := HO.out
      have hsz := hkr.size
      go_wp2_with (first | (at_builtin; refine wpList_append_own _ rfl _ _ 54 rfl w.heap.size 9 i0 (.string ⟨#[]⟩) 1 16 Tryz.underlying54 hi hz0 hz1 hz2 rfl (by decide) _ _ _ rfl (hown.alloc _) ⟨wr.heap.size, 0, none⟩ 1 1 [.string s] rfl rfl (cell_one_new _ _ _) (by simp [Value.oneCell']) (by unfold maxLen; omega) (by omega) (by simp; omega) ?_; intro v4 w4 hown4 hgrow4 _) | fail)
      exact ⟨⟨k + 1, by omega, by go_num, Lib.hid (by rw [HTk.out, strV_snoc]; exact hown4), Below.grown (hkr.alloc _) hgrow4 (by simp; omega) (fun q e => (hown.lt q e).1)⟩, by simp [intOf]; omega⟩
    · obtain rfl : k = l.length := by omega
      go_wp2
      go_ret
      exact ⟨_, rfl, by have := HO.out; rw [HE.out] at this; exact this, hkr⟩
end Go.Proofs.YtblaphkaklocfaaGreatDoor
/- Plain: the days of ordo's builder: a row of results, each with three rows of numbers of the call's own. -/
namespace Go.Proofs.YtblaphkaklocfaaGreatDoor
open Go.ChangeShapes Go.WideShapes Go.ChangeAt Go.RowKit Go.Maps
set_option maxHeartbeats 1000000
set_option maxRecDepth 20000

theorem info_result : (Tryz.prog.info? 168).map (fun i => (i.zero, i.size, i.bytes)) = some (some (.agg #[.int .i64 0, .int .i64 0, .int .i64 0, .string ⟨#[]⟩, .slice none 0 0, .slice none 0 0, .slice none 0 0]), 7, 112) := by kernel_rfl
/-- A result with the values of its three lists. -/
abbrev RV := Res × (Value × Value × Value)
def RV.vals (x : RV) : List Value := [.int .i64 x.1.p.kind, .int .i64 x.1.p.idx, .int .i64 x.1.p.rank, .string x.1.p.id, x.2.1, x.2.2.1, x.2.2.2]
def flatR (l : List RV) : List Value := l.flatMap RV.vals
theorem flatR_snoc (l : List RV) (x : RV) : flatR (l ++ [x]) = flatR l ++ RV.vals x := by simp [flatR]
structure RowsOK (base : Nat) (w : World) (x : RV) : Prop where
  r1 : w.ownsRow base 3 1 x.2.1 x.1.com.length (natV x.1.com)
  r2 : w.ownsRow base 3 1 x.2.2.1 x.1.omi.length (natV x.1.omi)
  r3 : w.ownsRow base 3 1 x.2.2.2 x.1.imp.length (natV x.1.imp)
theorem RowsOK.kept {base : Nat} {w w' : World} {x : RV} (h : RowsOK base w x) (k : Kept w w') : RowsOK base w' x := ⟨owns_kept h.r1 k, owns_kept h.r2 k, owns_kept h.r3 k⟩
theorem RowsOK.base {b b' : Nat} {w : World} {x : RV} (h : RowsOK b w x) (hb : b' ≤ b) : RowsOK b' w x := ⟨owns_base h.r1 hb, owns_base h.r2 hb, owns_base h.r3 hb⟩
theorem owns_apart2 {w : World} {b n s b' n' s' : Nat} {e e' : TypeId} {v v' : Value} {xs xs' : List Value} (h : w.ownsRow b e s v n xs) (h' : w.ownsRow b' e' s' v' n' xs') (hne : e ≠ e') : v.ownBlock = none ∨ v.ownBlock ≠ v'.ownBlock := by
  obtain ⟨h1, ⟨rfl, _⟩ | ⟨g, cap, cur, rfl, h4, h5, h6⟩⟩ := h
  · exact .inl rfl
  · exact .inr (fun e2 => owns_not_blk h' (show Blk w g cur e from h5) hne e2.symm)
theorem RowsOK.grown {base : Nat} {w w' : World} {x : RV} {b' n' s' : Nat} {e' : TypeId} {v' : Value} {xs' : List Value} (h : RowsOK base w x) (h' : w.ownsRow b' e' s' v' n' xs') (hne : 3 ≠ e') (g : w.grownBy w' v'.ownBlock) : RowsOK base w' x :=
  ⟨owns_grown h.r1 g (owns_apart2 h.r1 h' hne), owns_grown h.r2 g (owns_apart2 h.r2 h' hne), owns_grown h.r3 g (owns_apart2 h.r3 h' hne)⟩
theorem RowsOK.set {base R o : Nat} {t : TypeId} {cs : Array Value} {w : World} {x : RV} (h : RowsOK base w x) (hk : Blk w R cs t) (hne : t ≠ 3) (u : Value) : RowsOK base (w.setCell ⟨R, o, none⟩ u) x :=
  ⟨own_set h.r1 hk hne u, own_set h.r2 hk hne u, own_set h.r3 hk hne u⟩
structure DaySt (base : Nat) (w : World) (v : Value) (l : List RV) : Prop where
  row : w.ownsRow base 168 7 v l.length (flatR l)
  rows : ∀ x ∈ l, RowsOK base w x
theorem DaySt.kept {base : Nat} {w w' : World} {v : Value} {l : List RV} (h : DaySt base w v l) (k : Kept w w') : DaySt base w' v l := ⟨owns_kept h.row k, fun x hx => (h.rows x hx).kept k⟩
theorem DaySt.nil (base : Nat) (w : World) : DaySt base w (.slice none 0 0) [] := ⟨World.ownsRow_nil _ _ _ _, fun x hx => by simp at hx⟩
theorem DaySt.set {base R o : Nat} {t : TypeId} {cs : Array Value} {w : World} {v : Value} {l : List RV} (h : DaySt base w v l) (hk : Blk w R cs t) (h1 : t ≠ 3) (h2 : t ≠ 168) (u : Value) : DaySt base (w.setCell ⟨R, o, none⟩ u) v l :=
  ⟨own_set h.row hk h2 u, fun x hx => (h.rows x hx).set hk h1 u⟩
/-- One day more. -/
theorem DaySt.step {base : Nat} {w w1 : World} {v v' : Value} {l : List RV} (h : DaySt base w v l) (x : RV) (hx : RowsOK base w x) (hrow : w1.ownsRow base 168 7 v' (l.length + 1) (flatR l ++ RV.vals x)) (g : w.grownBy w1 v.ownBlock) : DaySt base w1 v' (l ++ [x]) := by
  have hne : 3 ≠ 168 := by decide
  refine ⟨by rw [List.length_append, flatR_snoc]; exact hrow, fun y hy => ?_⟩
  rcases List.mem_append.1 hy with hy | hy
  · exact (h.rows y hy).grown h.row hne g
  · rw [List.mem_singleton.1 hy]
    exact hx.grown h.row hne g
theorem propF_mem (day y : Int) : ∀ (M : List Rec) (k : Nat) (x : Cand), x ∈ propF day y k M → x.kind = 2 ∧ k ≤ x.idx ∧ x.idx < k + M.length
  | [], k, x, h => by simp [propF] at h
  | r :: t, k, x, h => by
    rw [propF] at h
    split at h
    · rcases List.mem_cons.1 h with h | h
      · subst h
        exact ⟨rfl, Nat.le_refl _, by simp⟩
      · have := propF_mem day y t (k + 1) x h
        simp only [List.length_cons]
        omega
    · have := propF_mem day y t (k + 1) x h
      simp only [List.length_cons]
      omega
theorem fea_pol {r : Rec} (h : feaR r = true) : 1 ≤ r.b ∧ r.b ≤ 3 := by
  unfold feaR feaB poB at h
  simp only [Bool.and_eq_true, decide_eq_true_eq] at h
  omega
theorem cands_idx {f : Int} {L M : List Rec} (hB : catB f L M = true) (y first day : Int) : ∀ x ∈ candsAt L M y first day, x.kind = 2 → x.idx < M.length ∧ 1 ≤ polOf M x.idx ∧ polOf M x.idx ≤ 3 := by
  intro x hx hk
  unfold candsAt at hx
  rcases List.mem_cons.1 hx with h | h
  · subst h
    exact absurd hk (by show ((1 : Int) = 2) → False; omega)
  · obtain ⟨_, _, h2⟩ := propF_mem _ _ _ _ _ h
    have hlt : x.idx < M.length := by omega
    have := fea_pol ((catB_parts hB).2.2.2.2.1 M[x.idx]! (by rw [getElem!_pos M x.idx hlt]; exact List.getElem_mem hlt))
    exact ⟨hlt, this⟩
theorem resList_take (L M : List Rec) (y : Int) (j : Nat) (h : j < yearLen y) : (resList L M y).take (j + 1) = (resList L M y).take j ++ [resolveC M (candsY L M y j)] := by
  have hl : j < (resList L M y).length := by simpa [resList] using h
  rw [List.take_add_one, List.getElem?_eq_getElem hl]
  simp [resList]
theorem resList_len (L M : List Rec) (y : Int) : (resList L M y).length = yearLen y := by simp [resList]
end Go.Proofs.YtblaphkaklocfaaGreatDoor

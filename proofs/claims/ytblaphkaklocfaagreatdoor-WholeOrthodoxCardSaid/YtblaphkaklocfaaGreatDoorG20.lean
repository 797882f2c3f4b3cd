/- Contracts and plain lemmas: Asg, As2, Tak. -/
import Derived.Test.YtblaphkaklocfaaGreatDoorG19
import Derived.ScopeJumps
import Derived.Outline
set_option linter.unusedSimpArgs false
set_option linter.unusedVariables false
set_option linter.unusedSectionVars false
/- Contract: transfer.Assign: plain part. -/
namespace Go.Proofs.YtblaphkaklocfaaGreatDoor
open Go.ChangeShapes Go.WideShapes Go.ChangeAt Go.RowKit Go.Maps
set_option maxHeartbeats 4000000
set_option maxRecDepth 20000

theorem info_mov : (Tryz.prog.info? 219).map (fun i => (i.zero, i.size, i.bytes)) = some (some (.agg #[.int .i64 0, .int .i64 0, .int .i64 0]), 3, 24) := by kernel_rfl
def Mov.vals (m : Mov) : List Value := [.int .i64 m.feast, .int .i64 m.src, .int .i64 m.dst]
def flatM (T : List Mov) : List Value := T.flatMap Mov.vals
theorem flatM_snoc (T : List Mov) (m : Mov) : flatM (T ++ [m]) = flatM T ++ [.int .i64 m.feast, .int .i64 m.src, .int .i64 m.dst] := by simp [flatM, Mov.vals]
theorem under_mb : Tryz.prog.underlying 218 = some (.map 3 4) := by kernel_rfl
/-- The moves so far: the slice that is handed back, and the set of the days that are taken. -/
structure MovSt (base B : Nat) (T : List Mov) (v : Value) (D : DataW Unit) (w : World) : Prop where
  row : w.ownsRow base 219 3 v T.length (flatM T)
  own : w.ownsMap Tryz.prog 3 boElem B T.length D
  isM : IsMap D
  at_ : ∀ d : Nat, D.atKey (.int .i64 d) (.lit (.bool false)) = .lit (.bool (T.any (fun m => m.dst == d)))
theorem mapBo_kept {w w' : World} {b n : Nat} {D : DataW Unit} (h : w.ownsMap Tryz.prog 3 boElem b n D) (k : Kept w w') : w'.ownsMap Tryz.prog 3 boElem b n D := by
  have hlt := h.lt
  obtain ⟨es, cl, h1, h2⟩ := h
  exact ⟨es, cl, (k.block b hlt).trans h1, h2⟩
theorem mapBo_grown {w w' : World} {b n : Nat} {D : DataW Unit} {row : Option Nat} (h : w.ownsMap Tryz.prog 3 boElem b n D) (g : w.grownBy w' row) (hne : some b ≠ row) : w'.ownsMap Tryz.prog 3 boElem b n D := by
  have hlt := h.lt
  obtain ⟨es, cl, h1, h2⟩ := h
  exact ⟨es, cl, (g.block b hlt hne).trans h1, h2⟩
theorem MovSt.kept {base B : Nat} {T : List Mov} {v : Value} {D : DataW Unit} {w w' : World} (h : MovSt base B T v D w) (k : Kept w w') : MovSt base B T v D w' :=
  ⟨owns_kept h.row k, mapBo_kept h.own k, h.isM, h.at_⟩
theorem MovSt.look {base B : Nat} {T : List Mov} {v : Value} {D : DataW Unit} {w : World} (h : MovSt base B T v D w) (d : Nat) (hd : d ≤ 1000000) :
    (Instr.lookup 218 (.map (some B)) (.int .i64 d) false).run Tryz.prog w = .ok (.bool (T.any (fun m => m.dst == d))) w := by
  obtain ⟨u, ps, hrun, hv⟩ := h.own.lookup (t := 218) (e := 4) key_i under_mb (zero_b w) (zd := .lit (.bool false)) (zp := []) rfl (keyOf_int_mk Tryz.underlying3 (a := (d : Int)) (wf64 (by omega)))
  rw [h.at_] at hv
  rw [hrun, boElem_inv hv]
theorem MovSt.start (w : World) : MovSt (w.heap.size + 1) w.heap.size [] (.slice none 0 0) (.map []) (w.alloc (.map #[] 0)) :=
  ⟨World.ownsRow_nil _ _ _ _, World.ownsMap_made w Tryz.prog 3 boElem, isMap_empty, fun _ => rfl⟩
/-- A day is taken, then the move is laid behind the others. -/
theorem MovSt.step {base B : Nat} {T : List Mov} {v v' : Value} {D : DataW Unit} {w w1 w2 : World} (h : MovSt base B T v D w) (hB : B < base) (m : Mov)
    (hm : w1.ownsMap Tryz.prog 3 boElem B (T.length + 1) (D.put (.int .i64 m.dst) (.lit (.bool true)))) (k1 : Kept w1 w2)
    {w3 : World} (hrow : w3.ownsRow base 219 3 v' (T.length + 1) (flatM T ++ [.int .i64 m.feast, .int .i64 m.src, .int .i64 m.dst])) (hg : w2.grownBy w3 v.ownBlock) (hv : v.ownBlock ≠ some B) :
    MovSt base B (T ++ [m]) v' (D.put (.int .i64 m.dst) (.lit (.bool true))) w3 := by
  refine ⟨by rw [List.length_append, flatM_snoc]; exact hrow, by rw [List.length_append]; exact mapBo_grown (mapBo_kept hm k1) hg (fun e => hv e.symm), h.isM.put _ _, fun d => ?_⟩
  rw [List.any_append]
  by_cases e : d = m.dst
  · subst e
    rw [Maps.atKey_put_same h.isM (by trivial)]
    simp
  · rw [Maps.atKey_put_other (fun g => e (by injection g with _ g; omega)), h.at_]
    have : (m.dst == d) = false := by simpa using fun g => e g.symm
    simp [this]
theorem toFrom_step (F : List Bool) (T : List Mov) (n d : Nat) (hd : d < n) : toFrom F T (n - d) d = if F[d]?.getD false && !(T.any (fun m => m.dst == d)) then some d else toFrom F T (n - (d + 1)) (d + 1) := by
  obtain ⟨k, hk⟩ : ∃ k, n - d = k + 1 := ⟨n - d - 1, by omega⟩
  have : n - (d + 1) = k := by omega
  rw [hk, this, toFrom]
theorem toFrom_end (F : List Bool) (T : List Mov) (n : Nat) : toFrom F T (n - n) n = none := by rw [Nat.sub_self]; rfl
theorem toFrom_range (F : List Bool) (T : List Mov) : ∀ (k d r : Nat), toFrom F T k d = some r → d ≤ r ∧ r < d + k := by
  intro k
  induction k with
  | zero => intro d r h; simp [toFrom] at h
  | succ k ih =>
    intro d r h
    rw [toFrom] at h
    split at h
    · injection h with h; omega
    · have := ih _ _ h; omega
theorem drop_at {α : Type} [Inhabited α] (l : List α) (k : Nat) (h : k < l.length) : l.drop k = l[k]! :: l.drop (k + 1) := by
  rw [List.drop_eq_getElem_cons h, getElem!_pos l k h]
end Go.Proofs.YtblaphkaklocfaaGreatDoor
/- Contract: transfer.Assign: the walk. -/
namespace Go.Proofs.YtblaphkaklocfaaGreatDoor
open Go.ChangeShapes Go.WideShapes Go.ChangeAt Go.RowKit Go.Maps
set_option maxHeartbeats 16000000
set_option maxRecDepth 20000

theorem row_at {w : World} {b n : Nat} {e : TypeId} {v : Value} {xs : List Value} (h : w.ownsRow b e 1 v n xs) (h1 : 1 ≤ n) :
    ∃ g c, v = .slice (some ⟨g, 0, none⟩) n c ∧ b ≤ g ∧ g < w.heap.size ∧ ∀ j, j < n → w.cell? ⟨g, j, none⟩ = some xs[j]! := by
  have hc := h
  obtain ⟨hl, ⟨_, h0⟩ | ⟨g, cap, cur, rfl, hb, hh, _⟩⟩ := h
  · omega
  · refine ⟨g, cap, rfl, hb, (Array.getElem?_eq_some_iff.1 hh).1, fun j hj => ?_⟩
    have hj2 : j < xs.length := by omega
    have a1 := hc.cells (g := g) rfl j xs[j]! (by rw [List.getElem?_eq_getElem hj2, getElem!_pos xs j hj2])
    rw [Addr.add_lit, Nat.zero_add] at a1
    exact a1
theorem cell_three_new (w : World) (a b c : Value) (t : TypeId) : ∀ j u, [a, b, c][j]? = some u → (w.alloc (.cells #[a, b, c] t)).cell? ((⟨w.heap.size, 0, none⟩ : Addr).add j) = some u := by
  intro j u hj
  match j, hj with
  | 0, hj => simp at hj; subst hj; simp [Addr.add]
  | 1, hj => simp at hj; subst hj; simp [Addr.add]
  | 2, hj => simp at hj; subst hj; simp [Addr.add]
theorem bool_at (F : List Bool) (d : Nat) (h : d < F.length) : (F.map Value.bool)[d]! = .bool (F[d]?.getD false) := by
  rw [getElem!_pos _ d (by simpa using h)]
  simp [h]
theorem nat_at (l : List Nat) (d : Nat) (h : d < l.length) : (natV l)[d]! = .int .i64 (l[d]! : Nat) := by
  rw [getElem!_pos _ d (by simpa [natV] using h), getElem!_pos l d h]
  simp [natV]
theorem Assign_ok (F : List Bool) (I : List (List Nat)) (bF bI bJ : Nat) (vF vI : Value) (vs : List Value) (w : World) (hF : w.ownsRow bF 4 1 vF I.length (F.map Value.bool)) (hFI : F.length = I.length) (hI : w.ownsRow bI 52 1 vI I.length vs)
    (hJ : ∀ i, i < I.length → w.ownsRow bJ 3 1 vs[i]! (I[i]!).length (natV I[i]!)) (hn : I.length ≤ 400) (hl : ∀ i, i < I.length → (I[i]!).length ≤ 1000) :
    Calls Tryz.prog 107 #[vF, vI] w fun e w' => (∃ T v, assignC F 0 I [] = some T ∧ e = .returned (.tuple #[v, .int .i64 0]) ∧ w'.ownsRow w.heap.size 219 3 v T.length (flatM T) ∧ Kept w w' ∨ assignC F 0 I [] = none ∧ e = .returned (.tuple #[.slice none 0 0, .int .i64 5]) ∧ Kept w w') := by
  obtain ⟨i0, hi, hz0, hz1, hz2⟩ := info_parts info_mov
  have hmm := @run_makeMap Tryz.prog
  have HS := Lib.hid (MovSt.start w)
  obtain ⟨oF, cF, rfl⟩ := owns_form hF
  obtain ⟨oI, cI, rfl⟩ := owns_form hI
  have HF := Lib.hid hF
  have HI := Lib.hid hI
  have HJ := Lib.hid hJ
  have HL := Lib.hid hl
  have HTF := Lib.hid (fun T d (hd : d < I.length) => toFrom_step F T I.length d hd)
  have HTE := Lib.hid (fun T => toFrom_end F T I.length)
  have HTR := Lib.hid (fun T k d r h => toFrom_range F T k d r h)
  have HFI := Lib.hid hFI
  generalize hres : assignC F 0 I [] = res at *
  have HRES := Lib.hid hres
  clear hF hI hJ hl hres hFI
  generalize hN : I.length = n at *
  have HN := Lib.hid hN
  clear hN
  go_enter Tryz.func107, Tryz.ntmps107
  go_wp2
  go_loopw [6, 21] (fun v i wr => ∃ (day : Nat) (T : List Mov) (D : DataW Unit), day ≤ n ∧ i = .int .i64 day ∧ Hid (MovSt (w.heap.size + 1) w.heap.size T v D wr) ∧ Hid (res = assignC F day (I.drop day) T) ∧ T.length ≤ day * 1000 ∧ Kept w wr) (fun _ i _ => (n - intOf i).toNat)
  case atStart => exact ⟨0, [], _, by omega, rfl, HS.out, (show res = _ from by rw [List.drop_zero]; exact HRES.out.symm), by simp, (by repeat (first | with_reducible exact Kept.refl _ | with_reducible assumption | with_reducible refine Kept.drew ?_ | with_reducible refine Kept.drewN ?_ _ | with_reducible refine Kept.alloc ?_ _ | (with_reducible refine Kept.setCell ?_ (by first | exact Nat.le_refl _ | omega | (simp; done) | (simp; omega)) _) | (with_reducible refine Kept.trans ?_ (by with_reducible assumption))))⟩
  case round =>
    obtain ⟨day, T0, D0, hday, rfl, HM, HE, hT0, hkr⟩ := hrel
    obtain ⟨wa, hwa⟩ : ∃ x, x = wr := ⟨wr, rfl⟩
    subst hwa
    by_cases hlt : day < n
    · obtain ⟨gI, c, e1, _, hgI, hcI⟩ := row_at (owns_kept HI.out hkr) (by omega)
      have cI' := hcI day hlt
      have HJd := Lib.hid (HJ.out day hlt)
      have hll := HL.out day hlt
      have HEd := Lib.hid (show res = assignC F day (I[day]! :: I.drop (day + 1)) T0 from by rw [HE.out, drop_at I day (by rw [HN.out]; exact hlt)])
      have hdz : (day : Int) < (n : Int) := by omega
      generalize I[day]! = Id at *
      generalize vs[day]! = vd at *
      obtain ⟨od, cd, rfl⟩ := owns_form HJd.out
      simp only [Value.slice.injEq, true_and] at e1
      obtain ⟨rfl, rfl⟩ := e1
      clear hcI HE
      go_wp2_with fail
      refine wp_scope_straight ?_
      go_wp2_with fail
      go_step3
      go_wp2_with fail
      go_loopw [6, 28] (fun v i wr2 => ∃ (k : Nat) (T : List Mov) (D : DataW Unit), k ≤ Id.length ∧ i = .int .i64 k ∧ Hid (MovSt (w.heap.size + 1) w.heap.size T v D wr2) ∧ Hid (moveDay F day Id T0 = moveDay F day (Id.drop k) T) ∧ T.length ≤ T0.length + k ∧ Hid (Kept w wr2)) (fun _ i _ => (Id.length - intOf i).toNat)
      case atStart => exact ⟨0, T0, D0, by omega, rfl, HM, (show _ = _ from by rw [List.drop_zero]), by omega, hkr⟩
      case round =>
        clear HM
        obtain ⟨k, T, D, hk, rfl, HM, HD, hT, HK2⟩ := hrel
        obtain ⟨wm, hwm⟩ : ∃ x, x = wr := ⟨wr, rfl⟩
        subst hwm
        obtain ⟨oT, cT, rfl⟩ := owns_form HM.out.row
        by_cases hltk : k < Id.length
        · obtain ⟨gd, c, e1, _, hgd, hcd⟩ := row_at (owns_kept HJd.out HK2.out) (by omega)
          have cd' := hcd k hltk
          rw [nat_at Id k hltk] at cd'
          have HDk := Lib.hid (show moveDay F day Id T0 = moveDay F day (Id[k]! :: Id.drop (k + 1)) T from by rw [HD.out, drop_at Id k hltk])
          have hkz : (k : Int) < (Id.length : Int) := by omega
          have HW1 : Hid (wrap64 ((day : Int) + 1) = (day : Int) + 1) := (show _ = _ from by unfold wrap64; omega)
          generalize Id[k]! = fe at *
          simp only [Value.slice.injEq, true_and] at e1
          obtain ⟨rfl, rfl⟩ := e1
          clear hcd HD
          have hw1 := HW1.out
          go_wp2_with fail
          clear hw1
          go_loopw [6, 12] (fun v i wr3 => ∃ d : Nat, v = .slice oT T.length cT ∧ i = .int .i64 d ∧ day + 1 ≤ d ∧ d ≤ n ∧ wm = wr3 ∧ Hid (toFrom F T (n - (day + 1)) (day + 1) = toFrom F T (n - d) d)) (fun _ i _ => (n - intOf i).toNat)
          case atStart => exact ⟨day + 1, rfl, by rw [HW1.out]; go_num, by omega, by omega, rfl, rfl⟩
          case round =>
            clear HW1
            obtain ⟨d, rfl, rfl, hd1, hd2, rfl, HTo⟩ := hrel
            by_cases hltd : d < n
            · obtain ⟨gF, c, e1, _, hgF, hcF⟩ := row_at (owns_kept HF.out HK2.out) (by omega)
              have cF' := hcF d hltd
              rw [bool_at F d (by rw [HFI.out]; exact hltd)] at cF'
              simp only [Value.slice.injEq, true_and] at e1
              obtain ⟨rfl, rfl⟩ := e1
              have hlook := HM.out.look d (by omega)
              have HSt := Lib.hid (HTF.out T d hltd)
              have hddz : (d : Int) < (n : Int) := by omega
              have hlm := HM.out.own.lt
              clear hcF
              generalize F[d]?.getD false = b1 at *
              generalize (T.any fun m => m.dst == d) = b2 at *
              cases b1 with
              | false =>
                simp only [Bool.false_and, Bool.false_eq_true, if_false] at HSt
                have HTo2 := Lib.hid (HTo.out.trans HSt.out)
                clear HTo HSt hlook
                go_wp2
                go_roundw
                case rel => exact ⟨d + 1, rfl, by go_num, by omega, by omega, trivial, HTo2⟩
                case measure => simp [intOf]; omega
              | true =>
                cases b2 with
                | true =>
                  simp only [Bool.not_true, Bool.and_false, Bool.false_eq_true, if_false] at HSt
                  have HTo2 := Lib.hid (HTo.out.trans HSt.out)
                  clear HTo HSt
                  go_wp2
                  go_roundw
                  case rel => exact ⟨d + 1, rfl, by go_num, by omega, by omega, trivial, HTo2⟩
                  case measure => simp [intOf]; omega
                | false =>
                  simp only [Bool.not_false, Bool.and_true, if_true] at HSt
                  have HTo2 := Lib.hid (HTo.out.trans HSt.out)
                  clear HTo HSt
                  go_wp2
                  obtain ⟨w5, hrun5, hown6, hgrow6⟩ := HM.out.own.update (t := 218) (e := 4) key_i under_mb (by unfold maxLen; omega) (keyOf_int_mk Tryz.underlying3 (a := (d : Int)) (wf64 (by omega))) (val := .bool true) (d := .lit (.bool true)) (ps := []) rfl
                  rw [hrun5]
                  have hbt := HM.out.row.lt
                  have hrow5 := owns_grown HM.out.row hgrow6 (.inr (fun e => by have := (hbt _ e).1; omega))
                  have hs5 := hgrow6.size
                  have HST := Lib.hid (fun (w2 w3 : World) (v' : Value) => HM.out.step (by omega) ⟨fe, day, d⟩ (w2 := w2) (w3 := w3) (v' := v') hown6)
                  have hkw := HK2.out.size
                  have HK5 : Hid (Kept w w5) := Below.grown HK2.out hgrow6 (by omega) (fun q e => by cases e; omega)
                  clear hown6 hgrow6 hlook
                  go_wp2_with (first | (at_builtin; refine wpList_append_own _ rfl _ _ 100 rfl (w.heap.size + 1) 219 i0 (.agg #[.int .i64 0, .int .i64 0, .int .i64 0]) 3 24 Tryz.underlying100 hi hz0 hz1 hz2 rfl (by decide) _ _ _ rfl (hrow5.alloc _) ⟨w5.heap.size, 0, none⟩ 1 1 [.int .i64 fe, .int .i64 day, .int .i64 d] rfl rfl (cell_three_new _ _ _ _ _) (by simp [Value.oneCell']) (by unfold maxLen; omega) (by omega) (by simp; omega) ?_; intro v7 w7 hown7 hgrow7 _; have HM7 := HST.out _ _ _ ((Kept.refl w5).alloc _) hown7 hgrow7 (by intro e; have := (hbt _ e).1; omega)) | fail)
                  have hkw7 : Kept w w7 := Below.grown (HK5.out.alloc _) hgrow7 (by simp; omega) (fun q e => by have := (hbt q e).1; omega)
                  exact ⟨⟨k + 1, T ++ [⟨fe, day, d⟩], _, by omega, by go_num, Lib.hid HM7, HDk.out.trans (by rw [moveDay, HFI.out, HTo2.out]), by simp; omega, hkw7⟩, by simp [intOf]; omega⟩
            · obtain rfl : d = n := by omega
              have HTo2 := Lib.hid (HTo.out.trans (HTE.out T))
              clear HTo
              go_wp2
              simp only [Exit.noGoto, Exit.inBlock, Exit.then]
              go_wp2
              go_ret2
              exact ⟨[], .slice none 0 0, .inr ⟨by rw [HEd.out, assignC, HDk.out, moveDay, HFI.out, HTo2.out], rfl, HK2.out⟩⟩
        · obtain rfl : k = Id.length := by omega
          go_wp2
          simp only [Exit.noGoto, Exit.inBlock, Exit.then]
          go_wp2
          exact ⟨⟨day + 1, T, D, by omega, by go_num, HM, (show _ = _ from by rw [HEd.out, assignC, HD.out, List.drop_eq_nil_of_le (Nat.le_refl _), moveDay]), by omega, HK2.out⟩, by simp [intOf]; omega⟩
    · obtain rfl : day = n := by omega
      go_wp2
      go_ret2
      exact ⟨T0, _, .inl ⟨by rw [HE.out, List.drop_eq_nil_of_le (by rw [HN.out]; exact Nat.le_refl _), assignC], rfl, owns_base HM.out.row (by omega), hkr⟩⟩
end Go.Proofs.YtblaphkaklocfaaGreatDoor
/- Contract: transfer.Taken. -/
namespace Go.Proofs.YtblaphkaklocfaaGreatDoor
open Go.ChangeShapes Go.WideShapes Go.ChangeAt Go.RowKit Go.Maps
set_option maxHeartbeats 4000000
set_option maxRecDepth 20000

theorem flatM_at (l : List Mov) (i : Nat) (h : i < l.length) : (flatM l)[i * 3]? = some (.int .i64 (l[i]!).feast) ∧ (flatM l)[i * 3 + 1]? = some (.int .i64 (l[i]!).src) ∧ (flatM l)[i * 3 + 2]? = some (.int .i64 (l[i]!).dst) := by
  induction l generalizing i with
  | nil => simp at h
  | cons x s ih =>
    have e : flatM (x :: s) = .int .i64 x.feast :: .int .i64 x.src :: .int .i64 x.dst :: flatM s := rfl
    rw [e]
    cases i with
    | zero => simp
    | succ i =>
      have := ih i (by simpa using h)
      have h1 : (i + 1) * 3 = i * 3 + 3 := by omega
      rw [h1]
      simpa using this
/-- A row of moves: where it lies. -/
theorem movs_at {w : World} {b n : Nat} {o : Option Addr} {c : Nat} {T : List Mov} (h : w.ownsRow b 219 3 (.slice o n c) T.length (flatM T)) (h1 : 1 ≤ T.length) :
    ∃ g, o = some ⟨g, 0, none⟩ ∧ b ≤ g ∧ g < w.heap.size ∧ ∀ j, j < T.length → w.cell? ⟨g, j * 3, none⟩ = some (.int .i64 (T[j]!).feast) ∧ w.cell? ⟨g, j * 3 + 1, none⟩ = some (.int .i64 (T[j]!).src) ∧ w.cell? ⟨g, j * 3 + 2, none⟩ = some (.int .i64 (T[j]!).dst) := by
  have hc := h
  obtain ⟨_, ⟨_, h0⟩ | ⟨g, cap, cur, e, hb, hh, _⟩⟩ := h
  · omega
  · simp only [Value.slice.injEq] at e
    obtain ⟨rfl, rfl, rfl⟩ := e
    refine ⟨g, rfl, hb, (Array.getElem?_eq_some_iff.1 hh).1, fun j hj => ?_⟩
    obtain ⟨a0, a1, a2⟩ := flatM_at T j hj
    have q := fun k u => hc.cells (g := g) rfl k u
    have b0 := q _ _ a0
    have b1 := q _ _ a1
    have b2 := q _ _ a2
    rw [Addr.add_lit, Nat.zero_add] at b0 b1 b2
    exact ⟨b0, b1, b2⟩
def takV (m : Option Mov) : Value := match m with
  | some m => .tuple #[.agg #[.int .i64 m.feast, .int .i64 m.src, .int .i64 m.dst], .bool true]
  | none => .tuple #[.agg #[.int .i64 0, .int .i64 0, .int .i64 0], .bool false]
theorem Taken_ok (T : List Mov) (day : Nat) (b : Nat) (v : Value) (w : World) (hT : w.ownsRow b 219 3 v T.length (flatM T)) (hl : T.length ≤ 1000000) (hd : day ≤ 1000000) :
    Calls Tryz.prog 161 #[v, .int .i64 day] w fun e w' => e = .returned (takV (takenC T day)) ∧ Kept w w' := by
  obtain ⟨o, c, rfl⟩ := owns_form hT
  have HT := Lib.hid hT
  have HD := Lib.hid (fun j (h : j < T.length) => drop_at T j h)
  have HR : Hid (takenC T day = (T.drop 0).find? (fun m => m.dst == day)) := (show _ = _ from by rw [List.drop_zero]; rfl)
  generalize hres : takenC T day = res at *
  clear hT hres
  go_enter Tryz.func161, Tryz.ntmps161
  go_wp2
  go_loopw [10] (fun i wr => ∃ j : Nat, j ≤ T.length ∧ i = .int .i64 j ∧ Hid (res = (T.drop j).find? (fun m => m.dst == day)) ∧ Blk wr w.heap.size #[.int .i64 0, .int .i64 0, .int .i64 0] 219 ∧ Kept w wr) (fun i _ => (T.length - intOf i).toNat)
  case atStart => exact ⟨0, by omega, rfl, HR, Blk.new w _ _, (by repeat (first | with_reducible exact Kept.refl _ | with_reducible assumption | with_reducible refine Kept.drew ?_ | with_reducible refine Kept.drewN ?_ _ | with_reducible refine Kept.alloc ?_ _ | (with_reducible refine Kept.setCell ?_ (by first | exact Nat.le_refl _ | omega | (simp; done) | (simp; omega)) _) | (with_reducible refine Kept.trans ?_ (by with_reducible assumption))))⟩
  case round =>
    obtain ⟨j, hj, rfl, HF, bR, hkr⟩ := hrel
    have l0 := bR.lt
    have d0 : wr.cell? ⟨w.heap.size, 0, none⟩ = some (.int .i64 0) := by rw [bR.cell]; rfl
    have d1 : wr.cell? ⟨w.heap.size, 1, none⟩ = some (.int .i64 0) := by rw [bR.cell]; rfl
    have d2 : wr.cell? ⟨w.heap.size, 2, none⟩ = some (.int .i64 0) := by rw [bR.cell]; rfl
    have f0 := bR.free 0
    have f1 := bR.free 1
    have f2 := bR.free 2
    have HB := Lib.hid bR
    clear bR
    by_cases hlt : j < T.length
    · obtain ⟨g, rfl, hbg, hg, hc⟩ := movs_at (owns_kept HT.out hkr) (by omega)
      obtain ⟨c0, c1, c2⟩ := hc j hlt
      have HF2 := Lib.hid (show res = (T[j]! :: T.drop (j + 1)).find? (fun m => m.dst == day) from by rw [HF.out, HD.out j hlt])
      clear hc HF
      generalize T[j]! = m at *
      obtain ⟨mf, ms, md⟩ := m
      dsimp only at c0 c1 c2
      have hjz : (j : Int) < (T.length : Int) := by omega
      by_cases hmd : md = day
      · subst hmd
        have HF3 := Lib.hid (show res = some ⟨mf, ms, md⟩ from by rw [HF2.out]; simp)
        clear HF2
        go_wp2
        have B := ((((HB.out.set 0 (.int .i64 mf)).set 1 (.int .i64 ms)).set 2 (.int .i64 md)).alloc (.cells #[.int .i64 mf, .int .i64 ms, .int .i64 md] 219))
        have q0 := B.cell 0
        have q1 := B.cell 1
        have q2 := B.cell 2
        refine bodyPost_ret (v := .tuple #[.agg #[.int .i64 mf, .int .i64 ms, .int .i64 md], .bool true]) (by simp [results, Tryz.results161, go_sem, q0, q1, q2]) rfl ?_
        exact ⟨by rw [HF3.out]; rfl, Kept.alloc (Kept.setCell (Kept.setCell (Kept.setCell hkr (by dsimp only; omega) _) (by dsimp only; omega) _) (by dsimp only; omega) _) _⟩
      · have hne : (md : Int) ≠ (day : Int) := by omega
        have HF3 := Lib.hid (show res = (T.drop (j + 1)).find? (fun m => m.dst == day) from by rw [HF2.out]; simp [hmd])
        clear HF2
        go_wp2
        go_roundw
        case rel => exact ⟨j + 1, by omega, by go_num, HF3, HB.out.alloc _, (by repeat (first | with_reducible exact Kept.refl _ | with_reducible assumption | with_reducible refine Kept.drew ?_ | with_reducible refine Kept.drewN ?_ _ | with_reducible refine Kept.alloc ?_ _ | (with_reducible refine Kept.setCell ?_ (by first | exact Nat.le_refl _ | omega | (simp; done) | (simp; omega)) _) | (with_reducible refine Kept.trans ?_ (by with_reducible assumption))))⟩
        case measure => simp [intOf]; omega
    · obtain rfl : j = T.length := by omega
      have HF3 := Lib.hid (show res = none from by rw [HF.out, List.drop_eq_nil_of_le (Nat.le_refl _)]; rfl)
      clear HF
      go_wp2
      have B := (((HB.out.set 0 (.int .i64 0)).set 1 (.int .i64 0)).set 2 (.int .i64 0))
      have q0 := B.cell 0
      have q1 := B.cell 1
      have q2 := B.cell 2
      refine bodyPost_ret (v := .tuple #[.agg #[.int .i64 0, .int .i64 0, .int .i64 0], .bool false]) (by simp [results, Tryz.results161, go_sem, q0, q1, q2]) rfl ?_
      exact ⟨by rw [HF3.out]; rfl, Kept.setCell (Kept.setCell (Kept.setCell hkr (by dsimp only; omega) _) (by dsimp only; omega) _) (by dsimp only; omega) _⟩
end Go.Proofs.YtblaphkaklocfaaGreatDoor

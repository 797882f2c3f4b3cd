/- Contracts and plain lemmas: Fin, Fi2, Can1, Can2, Pro, Pr2, Yer. -/
import Derived.Test.YtblaphkaklocfaaGreatDoorG14
import Derived.Test.YtblaphkaklocfaaGreatDoorG15
import Derived.Maps.AppendAt
set_option linter.unusedSimpArgs false
set_option linter.unusedVariables false
set_option linter.unusedSectionVars false
/- Contracts: season.find, Of, Week. -/
namespace Go.Proofs.YtblaphkaklocfaaGreatDoor
open Go.ChangeShapes Go.WideShapes Go.ChangeAt Go.RowKit Go.Sort
set_option maxHeartbeats 4000000
set_option maxRecDepth 20000

theorem info_start : (Tryz.prog.info? 255).map (fun i => (i.zero, i.size, i.bytes)) = some (some (.agg #[.int .i64 0, .int .i64 0]), 2, 16) := by kernel_rfl
def flatP (l : List (Int × Int)) : List Value := l.flatMap encP
theorem flatP_snoc (l : List (Int × Int)) (x : Int × Int) : flatP (l ++ [x]) = flatP l ++ [.int .i64 x.1, .int .i64 x.2] := by simp [flatP]
theorem flatP_len (l : List (Int × Int)) : (flatP l).length = l.length * 2 := by
  induction l with
  | nil => rfl
  | cons x t ih =>
    have : flatP (x :: t) = encP x ++ flatP t := rfl
    rw [this, List.length_append, ih]
    simp
    omega
theorem flatP_get (l : List (Int × Int)) (t : Nat) (h : t < l.length * 2) : (flatP l)[t]? = some ((encP l.toArray[t / 2]!)[t % 2]!) := by
  induction l generalizing t with
  | nil => simp at h
  | cons x s ih =>
    have e : flatP (x :: s) = .int .i64 x.1 :: .int .i64 x.2 :: flatP s := rfl
    rw [e]
    match t, h with
    | 0, _ => simp
    | 1, _ => simp
    | t + 2, h =>
      have := ih t (by simp at h; omega)
      rw [List.getElem?_cons_succ, List.getElem?_cons_succ, this]
      have h1 : (t + 2) / 2 = t / 2 + 1 := by omega
      have h2 : (t + 2) % 2 = t % 2 := by omega
      rw [h1, h2]
      simp
theorem holds_of_owns {w : World} {b g c : Nat} {l : List (Int × Int)} (h : w.ownsRow b 255 2 (.slice (some ⟨g, 0, none⟩) l.length c) l.length (flatP l)) : HoldsK encP 2 w g 0 l.toArray := by
  obtain ⟨_, ⟨h1, _⟩ | ⟨g', cap, cur, h3, h4, h5, h6, h7, h8, h9⟩⟩ := h
  · cases h1
  · simp only [Value.slice.injEq, Option.some.injEq, Addr.mk.injEq, and_true, true_and] at h3
    obtain ⟨rfl, rfl⟩ := h3
    intro j hj
    have hj2 : j < l.length * 2 := by simpa [flatK] using hj
    have hb : Blk w g cur 255 := h5
    rw [Nat.zero_add]
    refine ⟨?_, hb.free j⟩
    rw [hb.cell]
    have e1 : cur[j]? = (flatP l)[j]? := by
      rw [← h9, List.getElem?_take, if_pos hj2, Array.getElem?_toList]
    rw [e1, flatP_get l j hj2]
    have hs : j < (flatK encP 2 l.toArray).size := hj
    rw [getElem!_pos (flatK encP 2 l.toArray) j hs]
    simp [flatK]
theorem isort_congr (lt lt' : Int × Int → Int × Int → Bool) (l : List (Int × Int)) (h : ∀ x ∈ l, ∀ y ∈ l, lt x y = lt' x y) : isortR lt l = isortR lt' l := by
  unfold isortR
  suffices hh : ∀ (t P : List (Int × Int)), (∀ x ∈ t, x ∈ l) → (∀ x ∈ P, x ∈ l) → t.foldl (fun P x => insB lt x P) P = t.foldl (fun P x => insB lt' x P) P from hh l [] (fun _ h => h) (fun _ h => by simp at h)
  have one : ∀ (x : Int × Int) (P : List (Int × Int)), x ∈ l → (∀ z ∈ P, z ∈ l) → insB lt x P = insB lt' x P := by
    intro x P hx
    induction P with
    | nil => intro _; rfl
    | cons z s ih =>
      intro hP
      unfold insB
      rw [h x hx z (hP z (List.mem_cons_self ..)), ih (fun a ha => hP a (List.mem_cons_of_mem _ ha))]
  intro t
  induction t with
  | nil => intro P _ _; rfl
  | cons x s ih =>
    intro P h1 h2
    rw [List.foldl_cons, List.foldl_cons, one x P (h1 x (List.mem_cons_self ..)) h2]
    refine ih _ (fun a ha => h1 a (List.mem_cons_of_mem _ ha)) (fun a ha => ?_)
    rcases List.mem_cons.1 ((insB_perm lt' x P).mem_iff.1 ha) with rfl | ha
    · exact h1 a (List.mem_cons_self ..)
    · exact h2 a ha
theorem pairsF_mem {i : Nat} {S : List Int} {a : Int × Int} (h : a ∈ pairsF i S) : a.1 ∈ S := by
  induction S generalizing i with
  | nil => simp [pairsF] at h
  | cons s t ih =>
    rw [pairsF, List.mem_cons] at h
    rcases h with rfl | h
    · exact List.mem_cons_self ..
    · exact List.mem_cons_of_mem _ (ih h)
theorem lt_same (S : List Int) (hS : ∀ s ∈ S, -1000000000000 ≤ s ∧ s ≤ 1000000000000) : isortR (ltOf cmpP) (pairsF 0 S) = isortR ltP (pairsF 0 S) := by
  refine isort_congr _ _ _ (fun x hx y hy => ?_)
  have a := hS _ (pairsF_mem hx)
  have b := hS _ (pairsF_mem hy)
  unfold ltOf cmpP ltP
  have : wrap64 (x.1 - y.1) = x.1 - y.1 := by unfold wrap64; omega
  rw [this]
  by_cases h : x.1 < y.1
  · rw [decide_eq_true h, decide_eq_true (by omega)]
  · rw [decide_eq_false h, decide_eq_false (by omega)]
theorem isBack_of {w : World} {g : Nat} {P : List (Int × Int)} (h : HoldsK encP 2 w g 0 P.reverse.toArray) : IsBack w g P := by
  intro k hk
  have hi : P.length - 1 - k < P.reverse.toArray.size := by simp; omega
  have hc := HoldsK.cells h encP_len hi
  have e : P.reverse.toArray[P.length - 1 - k]! = P[k]! := by
    have h1 : P.length - 1 - k < P.reverse.length := by simp; omega
    have h2 : P.length - 1 - (P.length - 1 - k) = k := by omega
    rw [getElem!_pos P.reverse.toArray _ hi, getElem!_pos P k hk]
    simp [h2]
  rw [e] at hc
  refine ⟨?_, ?_⟩
  · have := hc 0 _ rfl
    rw [Addr.add_lit, Nat.zero_add, Nat.add_zero] at this
    exact this
  · have := hc 1 _ rfl
    rw [Addr.add_lit, Nat.zero_add] at this
    exact this
end Go.Proofs.YtblaphkaklocfaaGreatDoor
/- Contract: season.find. -/
namespace Go.Proofs.YtblaphkaklocfaaGreatDoor
open Go.ChangeShapes Go.WideShapes Go.ChangeAt Go.RowKit Go.Sort
set_option maxHeartbeats 8000000
set_option maxRecDepth 20000

theorem pairsF_take (S : List Int) (j : Nat) (hj : j < S.length) : pairsF 0 (S.take (j + 1)) = pairsF 0 (S.take j) ++ [(S[j]!, (j : Int))] := by
  have e : S.take (j + 1) = S.take j ++ [S[j]!] := by rw [List.take_add_one, List.getElem?_eq_getElem hj, getElem!_pos S j hj]; rfl
  rw [e, pairsF_snoc]
  have : (S.take j).length = j := by simp; omega
  simp [this]
theorem cell_pair_new (w : World) (x y : Value) (t : TypeId) : ∀ j u, [x, y][j]? = some u → (w.alloc (.cells #[x, y] t)).cell? ((⟨w.heap.size, 0, none⟩ : Addr).add j) = some u := by
  intro j u hj
  match j, hj with
  | 0, hj => simp at hj; subst hj; simp [Addr.add]
  | 1, hj => simp at hj; subst hj; simp [Addr.add]
theorem year_end (y : Int) (h : 1 ≤ y) (h' : y ≤ 1000000000) : OkD 2 y 12 31 ∧ num 2 y 12 31 = fst 2 (y + 1) - 1 := by
  refine ⟨⟨h, h', by decide, by decide, by decide, ?_⟩, ?_⟩
  · cases lp 2 y <;> decide
  · have := fst_succ 2 y
    unfold num
    cases hb : lp 2 y <;> rw [hb] at this <;> simp [cum] at this ⊢ <;> omega
theorem wr_small (m : Nat) (h : m ≤ 1000000) : wrap64 (m : Int) = (m : Int) ∧ IntKind.i64.wrap (m : Int) = (m : Int) := by
  have e : wrap64 (m : Int) = (m : Int) := by unfold wrap64; omega
  exact ⟨e, by rw [IntKind.wrap_i64]; omega⟩
/-- A row of numbers of the call's own, not empty: where it lies. -/
theorem ints_at {w : World} {b n : Nat} {o : Option Addr} {c : Nat} {S : List Int} (h : w.ownsRow b 3 1 (.slice o n c) S.length (S.map (Value.int .i64))) (h1 : 1 ≤ S.length) :
    ∃ g, o = some ⟨g, 0, none⟩ ∧ b ≤ g ∧ g < w.heap.size ∧ ∀ j, j < S.length → w.cell? ⟨g, j, none⟩ = some (.int .i64 S[j]!) := by
  have hc := h
  obtain ⟨_, ⟨_, h0⟩ | ⟨g, cap, cur, e, hb, hh, _⟩⟩ := h
  · omega
  · simp only [Value.slice.injEq] at e
    obtain ⟨rfl, rfl, rfl⟩ := e
    refine ⟨g, rfl, hb, (Array.getElem?_eq_some_iff.1 hh).1, fun j hj => ?_⟩
    have a1 := hc.cells (g := g) rfl j (.int .i64 S[j]!) (by simp [hj])
    rw [Addr.add_lit, Nat.zero_add] at a1
    exact a1
/-- The start of a day's season, after the calls that find it. -/
def seaDay (L : List Rec) (y day : Int) : Int := (seaAt (daysOf y L) (fst 2 y) day).1
def seaIdx (L : List Rec) (y day : Int) : Nat := (seaAt (daysOf y L) (fst 2 y) day).2
theorem find_ok (f : Int) (o o' : Option Addr) (q q' : Nat) (L M : List Rec) (y day : Int) (w : World) (hT : RTab w) (hL : IsRecs w o L) (hM : IsRecs w o' M) (okL : ∀ r ∈ L, r.ok) (okM : ∀ r ∈ M, r.ok)
    (hB : catB f L M = true) (h1 : 1583 ≤ y) (h2 : y ≤ 1000000000) (hS : ∀ s ∈ daysOf y L, -1000000000000 ≤ s ∧ s ≤ 1000000000000) (d1 : fst 2 y ≤ day) (d2 : day < fst 2 (y + 1)) :
    Calls Tryz.prog 214 #[.agg #[.int .i64 f, .slice o L.length q, .slice o' M.length q'], .int .i64 y, .int .i64 day] w fun e w' => e = .returned (.tuple #[.agg #[.int .i64 (seaDay L y day), .int .i64 (seaIdx L y day)], .int .i64 0]) ∧ Kept w w' := by
  obtain ⟨i0, hi, hz0, hz1, hz2⟩ := info_parts info_start
  have KS := Lib.hid (fun w' (k : Kept w w') => Starts_ok f o o' q q' L M y w' (hT.kept k) (hL.kept k) (hM.kept k) okL okM hB h1 h2)
  have KF := Lib.hid (fun w => First_ok y w (by omega) h2)
  have KD := Lib.hid (fun w => ToDay_ok y 12 31 w (year_end y (by omega) h2).1)
  rw [(year_end y (by omega) h2).2] at KD
  obtain ⟨_, ⟨hl1, hl2⟩, _⟩ := catB_parts hB
  have HF : Hid (finP (isortR ltP (pairsF 0 (daysOf y L))) (fst 2 y) day = (seaDay L y day, (seaIdx L y day : Int))) := finP_sea (daysOf y L) (fst 2 y) day (fun e => by have h : (daysOf y L).length = 0 := (by rw [e]; rfl); rw [daysOf, List.length_map] at h; omega)
  have hSl : (daysOf y L).length = L.length := by simp [daysOf]
  have HE := Lib.hid (lt_same (daysOf y L) hS)
  rw [← hSl] at KS
  have hfb := fst_bounds 2 y (by omega) (by omega)
  generalize daysOf y L = S at *
  generalize seaDay L y day = rd at *
  generalize seaIdx L y day = ri at *
  generalize fst 2 (y + 1) = y1 at *
  generalize fst 2 y = y0 at *
  have hn : L.length = S.length := hSl.symm
  rw [hn]
  have hs1 : 1 ≤ S.length ∧ S.length ≤ 20 := by omega
  have HT := Lib.hid (pairsF_take S)
  have HP := Lib.hid (show (pairsF 0 S).length = S.length from pairsF_length 0 S)
  clear hT hL hM okL okM hB hl1 hl2 hS hSl hn
  go_enter Tryz.func214, Tryz.ntmps214
  go_wp2_with fail
  go_at_call 253
  (with_reducible refine (KS.out _ ?_).mono ?_)
  · exact (by repeat (first | with_reducible exact Kept.refl _ | with_reducible assumption | with_reducible refine Kept.drew ?_ | with_reducible refine Kept.drewN ?_ _ | with_reducible refine Kept.alloc ?_ _ | (with_reducible refine Kept.setCell ?_ (by first | exact Nat.le_refl _ | omega | (simp; done) | (simp; omega)) _) | (with_reducible refine Kept.trans ?_ (by with_reducible assumption))))
  rintro e w1 ⟨v, rfl, hown, hk1⟩
  obtain ⟨oS, cS, rfl⟩ := owns_form hown
  have hk01 : Kept w w1 := ((((Kept.refl w).alloc _).alloc _).alloc _).trans hk1
  have hz1' := hk1.size
  simp only [World.size_alloc] at hz1'
  have bD := (((Blk.new (w.alloc _) _ _).alloc _)).kept hk1
  have bR := (Blk.new ((w.alloc _).alloc _) _ _).kept hk1
  simp only [World.size_alloc] at bD bR
  have lD := bD.lt
  have lR := bR.lt
  have HOS := Lib.hid hown
  clear hown KS
  go_wp2_with fail
  go_at_call 105
  (with_reducible refine (KF.out _).mono ?_)
  rintro e wx ⟨rfl, rfl⟩
  go_wp2_with fail
  go_at_call 148
  (with_reducible refine (KD.out _).mono ?_)
  rintro e w2 ⟨rfl, hk2⟩
  have hk02 := Kept.trans hk01 hk2
  have bD2 := bD.kept hk2
  have bR2 := bR.kept hk2
  have lD2 := bD2.lt
  have lR2 := bR2.lt
  have cD2 : w2.cell? ⟨w.heap.size + 1, 0, none⟩ = some (.int .i64 day) := by rw [bD2.cell]; rfl
  obtain ⟨gS, rfl, _, hgS, hSc⟩ := ints_at (owns_kept HOS.out hk2) hs1.1
  have HSc := Lib.hid hSc
  have g1 : ¬ day < y0 := by omega
  have g2 : ¬ day > y1 - 1 := by omega
  have g3 : decide (day > y1 - 1) = false := decide_eq_false (by omega)
  clear HOS KF KD bD bR lD lR hk2 hk1 hk01 hSc
  go_wp2_with fail
  go_loopw [14, 51] (fun v i wr => ∃ j : Nat, j ≤ S.length ∧ i = .int .i64 j ∧ wr.ownsRow w2.heap.size 255 2 v j (flatP (pairsF 0 (S.take j))) ∧ Kept w2 wr) (fun _ i _ => (S.length - intOf i).toNat)
  case atStart => exact ⟨0, by omega, rfl, World.ownsRow_nil _ _ _ _, Kept.refl _⟩
  case round =>
    obtain ⟨j, hj, rfl, hown, hkr⟩ := hrel
    by_cases hlt : j < S.length
    · have hcs := (hkr.cell _ _ hgS).trans (HSc.out j hlt)
      have HJ := Lib.hid (HT.out j hlt)
      have hlz : (j : Int) < (S.length : Int) := by omega
      generalize S[j]! = s at *
      obtain ⟨oo, cc, rfl⟩ := owns_form hown
      have hown2 := hown.alloc (.cells #[.int .i64 s, .int .i64 j] 255)
      have hsr := hkr.size
      clear hown
      go_wp2_with (at_builtin; refine wpList_append_own _ rfl _ _ 299 rfl w2.heap.size 255 i0 (.agg #[.int .i64 0, .int .i64 0]) 2 16 Tryz.underlying299 hi hz0 hz1 hz2 rfl (by decide) _ _ _ rfl hown2 ⟨wr.heap.size, 0, none⟩ 1 1 [.int .i64 s, .int .i64 j] rfl rfl ?c1 ?c2 ?c3 ?c4 ?c5 ?_)
      case c1 => exact cell_pair_new wr (.int .i64 s) (.int .i64 j) 255
      case c2 => simp [Value.oneCell']
      case c3 => unfold maxLen; omega
      case c4 => omega
      case c5 => simp; omega
      intro v' w3 hown3 hgrow _
      have Kw : Kept w2 w3 := Below.grown (hkr.alloc (.cells #[.int .i64 s, .int .i64 j] 255)) hgrow (by simp; omega) (fun q hq => by have := (hown2.lt q hq).1; omega)
      have HO : Hid (w3.ownsRow w2.heap.size 255 2 v' (j + 1) (flatP (pairsF 0 (S.take (j + 1))))) := (show _ from by rw [HJ.out, flatP_snoc]; exact hown3)
      clear hown3 hown2 hgrow
      go_wp2
      go_roundw
      case rel => exact ⟨j + 1, by omega, by go_num, HO.out, Kw⟩
      case measure => simp [intOf]; omega
    · obtain rfl : j = S.length := by omega
      rw [List.take_length] at hown
      clear hlt hj
      have hbl := hkr.size
      obtain ⟨_, ⟨_, h0⟩ | ⟨g, cap, cur, rfl, hg1, hh, _⟩⟩ := id hown
      · omega
      · have hg2 := (Array.getElem?_eq_some_iff.1 hh).1
        have hH := holds_of_owns (w := wr) (b := w2.heap.size) (g := g) (c := cap) (l := pairsF 0 S) (by rw [HP.out]; exact hown)
        have hPl : (isortR ltP (pairsF 0 S)).length = S.length := (isortR_length ltP (pairsF 0 S)).trans HP.out
        have hsz : (pairsF 0 S).toArray.size = S.length := by rw [List.size_toArray, HP.out]
        have KQ : Hid (Calls Tryz.prog 254 #[.slice (some ⟨g, 0, none⟩) S.length cap, .func (.func 255) #[] #[]] wr fun e w' => e = .returned (.tuple #[]) ∧ IsBack w' g (isortR ltP (pairsF 0 S)) ∧ g < w'.heap.size ∧ Kept w2 w') := (show _ from by
          have := SortP_ok g cap (pairsF 0 S).toArray wr hH hg2 (by omega)
          rw [hsz] at this
          refine this.mono ?_
          rintro e w' ⟨rfl, n, os, rfl⟩
          have e1 : Sort.insertionSort (ltOf cmpP) (pairsF 0 S).toArray 0 S.length = (isortR ltP (pairsF 0 S)).reverse.toArray := by
            have := isort_is (ltOf cmpP) (pairsF 0 S)
            rw [hsz, HE.out] at this
            exact this
          rw [e1]
          refine ⟨rfl, isBack_of (holdsK_sortWorldK encP 2 wr g 0 n _ _ os hg2 hH ?_), Nat.lt_of_lt_of_le hg2 (size_sortWorldK_c encP 2 wr g 0 n _ os), kept_sortK hkr hg1⟩
          rw [hsz, List.size_toArray, List.length_reverse, hPl])
        have HFi := HF
        generalize isortR ltP (pairsF 0 S) = P at *
        have KL : Hid (∀ w', IsBack w' g P → g < w'.heap.size → w'.cell? ⟨w.heap.size + 1, 0, none⟩ = some (.int .i64 day) → Calls Tryz.prog 256 #[.slice (some ⟨g, 0, none⟩) S.length cap, .func (.func 257) #[] #[.pointer (some ⟨w.heap.size + 1, 0, none⟩)]] w' fun e w2 =>
            (∃ v b, e = .returned (.tuple #[.agg #[.int .i64 v.1, .int .i64 v.2], .bool b]) ∧ ((b = true ∧ P.find? (fun a => decide (a.1 ≤ day)) = some v) ∨ (b = false ∧ P.find? (fun a => decide (a.1 ≤ day)) = none))) ∧ Kept w' w2) := (show _ from fun w' i1 i2 i3 => by
          have := last_ok g cap (w.heap.size + 1) P day w' (by omega) i1 i2 i3
          rwa [hPl] at this)
        have hP1 : 1 ≤ P.length := by omega
        have HPL := Lib.hid hPl
        clear hown hH hh hsz hPl HE HP HT
        have hmf : ∀ (fn : Fn) (first cap : Array Value) (w : World), (Instr.makeFunc fn first cap).run Tryz.prog w = .ok (.func fn first cap) w := fun _ _ _ _ => rfl
        go_wp2_with fail
        go_at_call 254
        (with_reducible refine KQ.out.mono ?_)
        rintro e w4 ⟨rfl, hIB, hg4, hk4⟩
        have cD4 := (hk4.cell _ _ lD2).trans cD2
        have lD4 := lt_cellL cD4
        have bR4 := bR2.kept hk4
        have lR4 := bR4.lt
        have Hk4 := Lib.hid hk4
        have HR4 := Lib.hid bR4
        have HI4 := Lib.hid hIB
        have KL2 := Lib.hid (KL.out w4 hIB hg4 cD4)
        clear KQ KL hkr hk4 bR4 bR2 bD2 cD2 hIB hg2 hbl
        go_wp2_with fail
        go_at_call 256
        (with_reducible refine KL2.out.mono ?_)
        rintro e w5 ⟨⟨v, b, rfl, hv⟩, hk5⟩
        have hk25 := Kept.trans Hk4.out hk5
        have bR5 := HR4.out.kept hk5
        have l5 := bR5.lt
        have c0 : w5.cell? ⟨w.heap.size + 1 + 1, 0, none⟩ = some (.int .i64 0) := by rw [bR5.cell]; rfl
        have c1 : w5.cell? ⟨w.heap.size + 1 + 1, 1, none⟩ = some (.int .i64 0) := by rw [bR5.cell]; rfl
        have f0 := bR5.free 0
        have f1 := bR5.free 1
        have hk05 := Kept.trans hk02 hk25
        have HR5 := Lib.hid bR5
        rcases hv with ⟨rfl, hv⟩ | ⟨rfl, hv⟩
        · have HV : Hid ((v.1, v.2) = (rd, (ri : Int))) := (show _ from by
            rw [← HFi.out]
            unfold finP
            rw [hv]
            rfl)
          have e1 := congrArg Prod.fst HV.out
          have e2 := congrArg Prod.snd HV.out
          dsimp only at e1 e2
          rw [e1, e2]
          clear hv HV e1 e2 bR5 Hk4 HI4 KL2 cD4 HFi HF
          go_wp2
          have B := (((HR5.out.set 0 (.int .i64 rd)).set 1 (.int .i64 ri)).alloc (.cells #[.int .i64 rd, .int .i64 ri] 255))
          have q0 := B.cell 0
          have q1 := B.cell 1
          refine bodyPost_ret (v := .tuple #[.agg #[.int .i64 rd, .int .i64 ri], .int .i64 0]) (by simp [results, Tryz.results214, go_sem, q0, q1]) rfl ?_
          exact ⟨rfl, Kept.alloc (Kept.setCell (Kept.setCell hk05 (by dsimp only; omega) _) (by dsimp only; omega) _) _⟩
        · have HV : Hid (rd = y0 - 1 ∧ (ri : Int) = (P[0]!).2) := (show _ from by
            have := HFi.out
            unfold finP at this
            rw [hv] at this
            have h0 : P.head? = some P[0]! := by rw [List.head?_eq_getElem?, List.getElem?_eq_getElem (by omega), getElem!_pos P 0 (by omega)]
            rw [h0] at this
            simp only [Option.getD_some, Prod.mk.injEq] at this
            exact ⟨this.1.symm, this.2.symm⟩)
          have ci := (hk5.cell _ _ hg4).trans (HI4.out 0 (by omega)).2
          rw [HPL.out, ← HV.out.2] at ci
          have e1 := HV.out.1
          clear hv HV bR5 Hk4 HI4 KL2 cD4 HFi HF
          have g5 : g < w5.heap.size := lt_cellL ci
          obtain ⟨m, hm⟩ : ∃ m, S.length = m + 1 := ⟨S.length - 1, by omega⟩
          rw [hm] at ci ⊢
          have e2 : m + 1 - 1 - 0 = m := by omega
          rw [e2] at ci
          obtain ⟨e5, e6⟩ := wr_small m (by omega)
          have HM := Lib.hid hm
          subst e1
          clear hm e2
          go_wp2
          have B := (((HR5.out.set 0 (.int .i64 (y0 - 1))).set 1 (.int .i64 ri)).alloc (.cells #[.int .i64 v.1, .int .i64 v.2] 255))
          have q0 := B.cell 0
          have q1 := B.cell 1
          refine bodyPost_ret (v := .tuple #[.agg #[.int .i64 (y0 - 1), .int .i64 ri], .int .i64 0]) (by simp [results, Tryz.results214, go_sem, q0, q1]) rfl ?_
          exact ⟨rfl, Kept.alloc (Kept.setCell (Kept.setCell hk05 (by dsimp only; omega) _) (by dsimp only; omega) _) _⟩
end Go.Proofs.YtblaphkaklocfaaGreatDoor
/- Contracts: season.Of, Week; candidate.temporal. -/
namespace Go.Proofs.YtblaphkaklocfaaGreatDoor
open Go.ChangeShapes Go.WideShapes Go.ChangeAt Go.RowKit
set_option maxHeartbeats 4000000
set_option maxRecDepth 20000

/-- A well-formed catalogue and a year with a calendar. -/
structure Ctx (f : Int) (L M : List Rec) (y : Int) : Prop where
  hB : catB f L M = true
  h1 : 1583 ≤ y
  h2 : y ≤ 1000000000
  okL : ∀ r ∈ L, r.ok
  okM : ∀ r ∈ M, r.ok
/-- Where its lists lie; the tables. -/
structure Cin (w : World) (o o' : Option Addr) (L M : List Rec) : Prop where
  hT : RTab w
  hL : IsRecs w o L
  hM : IsRecs w o' M
theorem Cin.kept {w w' : World} {o o' : Option Addr} {L M : List Rec} (h : Cin w o o' L M) (k : Kept w w') : Cin w' o o' L M := ⟨h.hT.kept k, h.hL.kept k, h.hM.kept k⟩
abbrev catV (f : Int) (o o' : Option Addr) (q q' : Nat) (L M : List Rec) : Value := .agg #[.int .i64 f, .slice o L.length q, .slice o' M.length q']
theorem recDay_bd (y : Int) (r : Rec) (h : ancB r.k r.m r.d r.o r.wd r.c = true) (h1 : 1583 ≤ y) (h2 : y ≤ 1000000000) : 0 ≤ recDay y r ∧ recDay y r ≤ 1000000000000 := by
  unfold recDay ancDay
  unfold ancB at h
  have hd : ∀ m d, 1 ≤ d ∧ d ≤ mlen false m → 577000 ≤ num 2 y m d ∧ num 2 y m d ≤ 365249999999 := fun m d e => by
    have hk := ex_okD y m d e (by omega) h2
    have a := num_year 2 y m d hk
    have b := fst_bounds 2 (y + 1) (by omega) (by omega)
    have c : 577000 ≤ fst 2 y := by
      have := fst_mono 2 1583 y h1
      have e : fst 2 1583 = 577814 := by decide
      omega
    omega
  by_cases k1 : r.k = 1
  · rw [if_pos k1, Bool.and_eq_true] at h
    rw [if_neg (by omega), if_neg (by omega)]
    have := hd r.m r.d (of_decide_eq_true h.2)
    omega
  · rw [if_neg k1] at h
    by_cases k2 : r.k = 2
    · rw [if_pos k2, Bool.and_eq_true] at h
      rw [if_pos k2]
      have ho : -80 ≤ r.o ∧ r.o ≤ 250 := of_decide_eq_true h.2
      have hb := esN_val 2 y
      have he := easI_bounds 2 y
      have hq := hd 3 21 (by decide)
      unfold eqN at hb
      omega
    · rw [if_neg k2] at h
      by_cases k3 : r.k = 3
      · rw [if_pos k3, Bool.and_eq_true] at h
        rw [if_neg k2, if_pos k3]
        have hn := of_decide_eq_true h.2
        have := hd r.m r.d hn.1
        unfold nthDay
        split <;> omega
      · rw [if_neg k3] at h
        cases h
theorem daysOf_bd {f y : Int} {L M : List Rec} (C : Ctx f L M y) : ∀ s ∈ daysOf y L, -1000000000000 ≤ s ∧ s ≤ 1000000000000 := fun s hs => by
  obtain ⟨r, hr, rfl⟩ := List.mem_map.1 hs
  have := recDay_bd y r (seaR_anc ((catB_parts C.hB).2.2.2.1 r hr)) C.h1 C.h2
  omega
/-- A day of the year. -/
def InY (y day : Int) : Prop := fst 2 y ≤ day ∧ day < fst 2 (y + 1)
theorem Find_at {f y day : Int} {L M : List Rec} (C : Ctx f L M y) (o o' : Option Addr) (q q' : Nat) (w : World) (I : Cin w o o' L M) (hd : InY y day) :
    Calls Tryz.prog 214 #[catV f o o' q q' L M, .int .i64 y, .int .i64 day] w fun e w' => e = .returned (.tuple #[.agg #[.int .i64 (seaDay L y day), .int .i64 (seaIdx L y day)], .int .i64 0]) ∧ Kept w w' :=
  find_ok f o o' q q' L M y day w I.hT I.hL I.hM C.okL C.okM C.hB C.h1 C.h2 (daysOf_bd C) hd.1 hd.2
theorem SOf_ok {f y day : Int} {L M : List Rec} (C : Ctx f L M y) (o o' : Option Addr) (q q' : Nat) (w : World) (I : Cin w o o' L M) (hd : InY y day) :
    Calls Tryz.prog 159 #[catV f o o' q q' L M, .int .i64 y, .int .i64 day] w fun e w' => e = .returned (.tuple #[.int .i64 (seaIdx L y day), .int .i64 0]) ∧ Kept w w' := by
  have KF := Lib.hid (fun w' (k : Kept w w') => Find_at C o o' q q' w' (I.kept k) hd)
  clear C I hd
  go_enter Tryz.func159, Tryz.ntmps159
  go_wp2_with fail
  (go_at_call 214; refine (KF.out _ (by repeat (first | with_reducible exact Kept.refl _ | with_reducible assumption | with_reducible refine Kept.drew ?_ | with_reducible refine Kept.drewN ?_ _ | with_reducible refine Kept.alloc ?_ _ | (with_reducible refine Kept.setCell ?_ (by first | exact Nat.le_refl _ | omega | (simp; done) | (simp; omega)) _) | (with_reducible refine Kept.trans ?_ (by with_reducible assumption))))).mono ?_; rintro e w1 ⟨rfl, hk1⟩)
  have hB1_1 := hk1
  obtain ⟨hc1_1, hf1_1⟩ := kept_cells hB1_1
  have hz1_0_1 : w.heap.size < w1.heap.size := by have := hB1_1.size; simp at this; omega
  go_wp2
  go_ret2
  exact ⟨rfl, (by repeat (first | with_reducible exact Kept.refl _ | with_reducible assumption | with_reducible refine Kept.drew ?_ | with_reducible refine Kept.drewN ?_ _ | with_reducible refine Kept.alloc ?_ _ | (with_reducible refine Kept.setCell ?_ (by first | exact Nat.le_refl _ | omega | (simp; done) | (simp; omega)) _) | (with_reducible refine Kept.trans ?_ (by with_reducible assumption))))⟩
theorem lastLe_mem (p : Int → Bool) : ∀ (S : List Int) (i : Nat) (b : Option (Nat × Int)) (r : Nat × Int), lastLe p i S b = some r → (r.2 ∈ S ∧ p r.2 = true) ∨ b = some r := by
  intro S
  induction S with
  | nil => intro i b r h; exact .inr h
  | cons s t ih =>
    intro i b r h
    cases b with
    | none =>
      rw [lastLe] at h
      rcases ih _ _ _ h with ⟨h, g⟩ | h
      · exact .inl ⟨List.mem_cons_of_mem _ h, g⟩
      · by_cases hp : p s = true
        · rw [if_pos hp] at h
          cases h
          exact .inl ⟨List.mem_cons_self .., hp⟩
        · rw [if_neg hp] at h
          cases h
    | some a =>
      obtain ⟨j, g⟩ := a
      rw [lastLe] at h
      rcases ih _ _ _ h with ⟨h, g⟩ | h
      · exact .inl ⟨List.mem_cons_of_mem _ h, g⟩
      · by_cases hp : (p s && decide (g ≤ s)) = true
        · rw [if_pos hp] at h
          cases h
          rw [Bool.and_eq_true] at hp
          exact .inl ⟨List.mem_cons_self .., hp.1⟩
        · rw [if_neg hp] at h
          exact .inr h
theorem seaDay_bd {f y : Int} {L M : List Rec} (C : Ctx f L M y) (day : Int) (hd : InY y day) : -1000000000000 ≤ seaDay L y day ∧ seaDay L y day ≤ day := by
  have hfb := fst_bounds 2 y (by have := C.h1; omega) (by have := C.h2; omega)
  obtain ⟨d1, d2⟩ := hd
  unfold seaDay seaAt
  cases h : lastLe (fun s => decide (s ≤ day)) 0 (daysOf y L) none with
  | some r =>
    rcases lastLe_mem _ _ _ _ _ h with ⟨a, b⟩ | a
    · have := daysOf_bd C _ a
      have hb := of_decide_eq_true b
      dsimp only
      omega
    · cases a
  | none =>
    cases h2 : lastLe (fun _ => true) 0 (daysOf y L) none with
    | some r => dsimp only; omega
    | none => dsimp only; omega
theorem SWeek_ok {f y day : Int} {L M : List Rec} (C : Ctx f L M y) (o o' : Option Addr) (q q' : Nat) (w : World) (I : Cin w o o' L M) (hd : InY y day) :
    Calls Tryz.prog 160 #[catV f o o' q q' L M, .int .i64 y, .int .i64 day] w fun e w' => e = .returned (.tuple #[.int .i64 (weekC (daysOf y L) (fst 2 y) day), .int .i64 0]) ∧ Kept w w' := by
  have KF := Lib.hid (fun w' (k : Kept w w') => Find_at C o o' q q' w' (I.kept k) hd)
  have KY := Lib.hid (fun w => First_ok y w (by have := C.h1; omega) C.h2)
  have hfb := fst_bounds 2 y (by have := C.h1; omega) (by have := C.h2; omega)
  have hfb2 := fst_bounds 2 (y + 1) (by have := C.h1; omega) (by have := C.h2; omega)
  have hsb := seaDay_bd C day hd
  have he : weekC (daysOf y L) (fst 2 y) day = (if day < (if seaDay L y day < fst 2 y then fst 2 y else seaDay L y day) + (0 - (if seaDay L y day < fst 2 y then fst 2 y else seaDay L y day)) % 7 then 0 else (day - ((if seaDay L y day < fst 2 y then fst 2 y else seaDay L y day) + (0 - (if seaDay L y day < fst 2 y then fst 2 y else seaDay L y day)) % 7)) / 7 + 1) := rfl
  rw [he]
  obtain ⟨hd1, hd2⟩ := hd
  generalize seaDay L y day = s at *
  generalize fst 2 (y + 1) = y1 at *
  generalize fst 2 y = y0 at *
  clear C I he
  have hm : max s y0 = if s < y0 then y0 else s := by rw [Int.max_def]; split <;> split <;> omega
  generalize (if s < y0 then y0 else s) = m at *
  have hmb : y0 ≤ m ∧ -1000000000000 ≤ m ∧ m ≤ 1000000000000 := by omega
  have KO := Lib.hid (fun w => OnOrAfter_ok m 0 w (by omega) (by omega) (by omega) (by omega))
  have hr : 0 ≤ (0 - m) % 7 ∧ (0 - m) % 7 ≤ 6 := by omega
  generalize (0 - m) % 7 = r at *
  by_cases hc : day < m + r
  · rw [if_pos hc]
    go_enter Tryz.func160, Tryz.ntmps160
    go_wp2_with fail
    (go_at_call 214; refine (KF.out _ (by repeat (first | with_reducible exact Kept.refl _ | with_reducible assumption | with_reducible refine Kept.drew ?_ | with_reducible refine Kept.drewN ?_ _ | with_reducible refine Kept.alloc ?_ _ | (with_reducible refine Kept.setCell ?_ (by first | exact Nat.le_refl _ | omega | (simp; done) | (simp; omega)) _) | (with_reducible refine Kept.trans ?_ (by with_reducible assumption))))).mono ?_; rintro e w1 ⟨rfl, hk1⟩)
    have hB1_1 := hk1
    obtain ⟨hc1_1, hf1_1⟩ := kept_cells hB1_1
    have hz1_0_1 : w.heap.size < w1.heap.size := by have := hB1_1.size; simp at this; omega
    go_wp2_with fail
    (go_at_call 105; refine (KY.out _).mono ?_; rintro e w1 ⟨rfl, rfl⟩)
    go_wp2_with fail
    (go_at_call 98; refine (KO.out _).mono ?_; rintro e w2 ⟨rfl, hk2⟩)
    have hB1_2 := Kept.trans (Kept.alloc hB1_1 _) hk2
    have hB2_2 := hk2
    obtain ⟨hc1_2, hf1_2⟩ := kept_cells hB1_2
    have hz1_0_2 : w.heap.size < w2.heap.size := by have := hB1_2.size; simp at this; omega
    obtain ⟨hc2_2, hf2_2⟩ := kept_cells hB2_2
    have hz2_0_2 : w1.heap.size < w2.heap.size := by have := hB2_2.size; simp at this; omega
    go_wp2
    go_ret2
    exact ⟨rfl, (by repeat (first | with_reducible exact Kept.refl _ | with_reducible assumption | with_reducible refine Kept.drew ?_ | with_reducible refine Kept.drewN ?_ _ | with_reducible refine Kept.alloc ?_ _ | (with_reducible refine Kept.setCell ?_ (by first | exact Nat.le_refl _ | omega | (simp; done) | (simp; omega)) _) | (with_reducible refine Kept.trans ?_ (by with_reducible assumption))))⟩
  · rw [if_neg hc]
    have hg : ¬ m + r > day := by omega
    go_enter Tryz.func160, Tryz.ntmps160
    go_wp2_with fail
    (go_at_call 214; refine (KF.out _ (by repeat (first | with_reducible exact Kept.refl _ | with_reducible assumption | with_reducible refine Kept.drew ?_ | with_reducible refine Kept.drewN ?_ _ | with_reducible refine Kept.alloc ?_ _ | (with_reducible refine Kept.setCell ?_ (by first | exact Nat.le_refl _ | omega | (simp; done) | (simp; omega)) _) | (with_reducible refine Kept.trans ?_ (by with_reducible assumption))))).mono ?_; rintro e w1 ⟨rfl, hk1⟩)
    have hB1_1 := hk1
    obtain ⟨hc1_1, hf1_1⟩ := kept_cells hB1_1
    have hz1_0_1 : w.heap.size < w1.heap.size := by have := hB1_1.size; simp at this; omega
    go_wp2_with fail
    (go_at_call 105; refine (KY.out _).mono ?_; rintro e w1 ⟨rfl, rfl⟩)
    go_wp2_with fail
    (go_at_call 98; refine (KO.out _).mono ?_; rintro e w2 ⟨rfl, hk2⟩)
    have hB1_2 := Kept.trans (Kept.alloc hB1_1 _) hk2
    have hB2_2 := hk2
    obtain ⟨hc1_2, hf1_2⟩ := kept_cells hB1_2
    have hz1_0_2 : w.heap.size < w2.heap.size := by have := hB1_2.size; simp at this; omega
    obtain ⟨hc2_2, hf2_2⟩ := kept_cells hB2_2
    have hz2_0_2 : w1.heap.size < w2.heap.size := by have := hB2_2.size; simp at this; omega
    go_wp2
    go_ret2
    exact ⟨rfl, (by repeat (first | with_reducible exact Kept.refl _ | with_reducible assumption | with_reducible refine Kept.drew ?_ | with_reducible refine Kept.drewN ?_ _ | with_reducible refine Kept.alloc ?_ _ | (with_reducible refine Kept.setCell ?_ (by first | exact Nat.le_refl _ | omega | (simp; done) | (simp; omega)) _) | (with_reducible refine Kept.trans ?_ (by with_reducible assumption))))⟩
end Go.Proofs.YtblaphkaklocfaaGreatDoor
/- Contract: candidate.temporal. -/
namespace Go.Proofs.YtblaphkaklocfaaGreatDoor
open Go.ChangeShapes Go.WideShapes Go.ChangeAt Go.RowKit
set_option maxHeartbeats 4000000
set_option maxRecDepth 20000

theorem lastLe_at (p : Int → Bool) : ∀ (S : List Int) (i : Nat) (b : Option (Nat × Int)) (r : Nat × Int), lastLe p i S b = some r → (i ≤ r.1 ∧ r.1 < i + S.length) ∨ b = some r := by
  intro S
  induction S with
  | nil => intro i b r h; exact .inr h
  | cons s t ih =>
    intro i b r h
    cases b with
    | none =>
      rw [lastLe] at h
      rcases ih _ _ _ h with h | h
      · exact .inl (by rw [List.length_cons]; omega)
      · by_cases hp : p s = true
        · rw [if_pos hp] at h
          cases h
          exact .inl (by rw [List.length_cons]; dsimp only; omega)
        · rw [if_neg hp] at h
          cases h
    | some a =>
      obtain ⟨j, g⟩ := a
      rw [lastLe] at h
      rcases ih _ _ _ h with h | h
      · exact .inl (by rw [List.length_cons]; omega)
      · by_cases hp : (p s && decide (g ≤ s)) = true
        · rw [if_pos hp] at h
          cases h
          exact .inl (by rw [List.length_cons]; dsimp only; omega)
        · rw [if_neg hp] at h
          exact .inr h
theorem seaIdx_lt {f y : Int} {L M : List Rec} (C : Ctx f L M y) (day : Int) : seaIdx L y day < L.length := by
  obtain ⟨_, ⟨hl1, hl2⟩, _⟩ := catB_parts C.hB
  have hlen : (daysOf y L).length = L.length := by simp [daysOf]
  unfold seaIdx seaAt
  cases h : lastLe (fun s => decide (s ≤ day)) 0 (daysOf y L) none with
  | some r =>
    rcases lastLe_at _ _ _ _ _ h with a | a
    · dsimp only; omega
    · cases a
  | none =>
    cases h2 : lastLe (fun _ => true) 0 (daysOf y L) none with
    | some r =>
      rcases lastLe_at _ _ _ _ _ h2 with a | a
      · dsimp only; omega
      · cases a
    | none => dsimp only; omega
abbrev candV (c : Cand) : Value := .agg #[.int .i64 c.kind, .int .i64 c.idx, .int .i64 c.rank, .string c.id]
abbrev tempAt (L : List Rec) (y day : Int) : Cand := tempC L (daysOf y L) (fst 2 y) day
theorem temporal_ok {f y day : Int} {L M : List Rec} (C : Ctx f L M y) (o o' : Option Addr) (q q' : Nat) (w : World) (I : Cin w o o' L M) (hd : InY y day) :
    Calls Tryz.prog 154 #[catV f o o' q q' L M, .int .i64 y, .int .i64 day] w fun e w' => e = .returned (.tuple #[candV (tempAt L y day), .int .i64 0]) ∧ Kept w w' := by
  have hfb := fst_bounds 2 y (by have := C.h1; omega) (by have := C.h2; omega)
  have hfb2 := fst_bounds 2 (y + 1) (by have := C.h1; omega) (by have := C.h2; omega)
  have KO := Lib.hid (fun w' (k : Kept w w') => SOf_ok C o o' q q' w' (I.kept k) hd)
  have KW := Lib.hid (fun w => WOf_any day w (by have := hd.1; omega) (by have := hd.2; omega))
  have hlt := seaIdx_lt C day
  have HI := Lib.hid (fun w' (k : Kept w w') => (I.kept k).hL.cells _ hlt)
  have e : candV (tempAt L y day) = .agg #[.int .i64 1, .int .i64 (seaIdx L y day), .int .i64 (if day % 7 = 0 then (L[seaIdx L y day]!).a else (L[seaIdx L y day]!).b), .string (L[seaIdx L y day]!).s] := rfl
  rw [e]
  clear e hfb hfb2 C I hd
  generalize hL : L[seaIdx L y day]! = r at *
  generalize seaIdx L y day = i at *
  obtain ⟨s, xa, xb, xk, xm, xd, xo, xw, xc⟩ := r
  dsimp only at HI ⊢
  clear hL
  generalize hdm : day % 7 = dm at *
  clear hdm
  by_cases hz : dm = 0
  · subst hz
    simp only [if_true]
    go_enter Tryz.func154, Tryz.ntmps154
    go_wp2_with fail
    go_at_call 159
    (with_reducible refine (KO.out _ ?_).mono ?_)
    · exact (by repeat (first | with_reducible exact Kept.refl _ | with_reducible assumption | with_reducible refine Kept.drew ?_ | with_reducible refine Kept.drewN ?_ _ | with_reducible refine Kept.alloc ?_ _ | (with_reducible refine Kept.setCell ?_ (by first | exact Nat.le_refl _ | omega | (simp; done) | (simp; omega)) _) | (with_reducible refine Kept.trans ?_ (by with_reducible assumption))))
    rintro e w1 ⟨rfl, hk1⟩
    have bL := ((Blk.new w _ _).alloc _).kept hk1
    have bR := (Blk.new (w.alloc _) _ _).kept hk1
    simp only [World.size_alloc] at bR
    have hk01 : Kept w w1 := (((Kept.refl w).alloc _).alloc _).trans hk1
    obtain ⟨b, off, rfl, c0, c1, c2, c3, c4, c5, c6, c7, c8⟩ := HI.out w1 hk01
    have cL : w1.cell? ⟨w.heap.size, 1, none⟩ = some (.slice (some ⟨b, off, none⟩) L.length q) := by rw [bL.cell]; rfl
    have hltz : (i : Int) < (L.length : Int) := by omega
    have lb := lt_cellL c0
    have lL := bL.lt
    have lR := bR.lt
    have r0 : w1.cell? ⟨w.heap.size + 1, 0, none⟩ = some (.int .i64 0) := by rw [bR.cell]; rfl
    have r1 : w1.cell? ⟨w.heap.size + 1, 1, none⟩ = some (.int .i64 0) := by rw [bR.cell]; rfl
    have r2 : w1.cell? ⟨w.heap.size + 1, 2, none⟩ = some (.int .i64 0) := by rw [bR.cell]; rfl
    have r3 : w1.cell? ⟨w.heap.size + 1, 3, none⟩ = some (.string ⟨#[]⟩) := by rw [bR.cell]; rfl
    have f0 := bR.free 0
    have f1 := bR.free 1
    have f2 := bR.free 2
    have f3 := bR.free 3
    have HR := Lib.hid bR
    clear bL bR HI hk1
    go_wp2_with fail
    go_at_call 143
    (with_reducible refine (KW.out _).mono ?_)
    rintro e w2 ⟨rfl, rfl⟩
    go_wp2
    have B := (((((HR.out.set 0 (.int .i64 1)).set 1 (.int .i64 i)).set 2 (.int .i64 xa)).set 3 (.string s)).alloc (.cells #[.string s, .int .i64 xa, .int .i64 xb, .int .i64 xk, .int .i64 xm, .int .i64 xd, .int .i64 xo, .int .i64 xw, .int .i64 xc] 107)).alloc (.cells #[.int .i64 1, .int .i64 i, .int .i64 xa, .string s] 166)
    have q0 := B.cell 0
    have q1 := B.cell 1
    have q2 := B.cell 2
    have q3 := B.cell 3
    refine bodyPost_ret (v := .tuple #[.agg #[.int .i64 1, .int .i64 i, .int .i64 xa, .string s], .int .i64 0]) (by simp [results, Tryz.results154, go_sem, q0, q1, q2, q3]) rfl ?_
    exact ⟨rfl, Kept.drew (Kept.alloc (Kept.alloc (Kept.setCell (Kept.setCell (Kept.setCell (Kept.setCell hk01 (by dsimp only; omega) _) (by dsimp only; omega) _) (by dsimp only; omega) _) (by dsimp only; omega) _) _) _)⟩
  · have hz2 : (dm == 0) = false := beq_false_of_ne hz
    simp only [if_neg hz]
    go_enter Tryz.func154, Tryz.ntmps154
    go_wp2_with fail
    go_at_call 159
    (with_reducible refine (KO.out _ ?_).mono ?_)
    · exact (by repeat (first | with_reducible exact Kept.refl _ | with_reducible assumption | with_reducible refine Kept.drew ?_ | with_reducible refine Kept.drewN ?_ _ | with_reducible refine Kept.alloc ?_ _ | (with_reducible refine Kept.setCell ?_ (by first | exact Nat.le_refl _ | omega | (simp; done) | (simp; omega)) _) | (with_reducible refine Kept.trans ?_ (by with_reducible assumption))))
    rintro e w1 ⟨rfl, hk1⟩
    have bL := ((Blk.new w _ _).alloc _).kept hk1
    have bR := (Blk.new (w.alloc _) _ _).kept hk1
    simp only [World.size_alloc] at bR
    have hk01 : Kept w w1 := (((Kept.refl w).alloc _).alloc _).trans hk1
    obtain ⟨b, off, rfl, c0, c1, c2, c3, c4, c5, c6, c7, c8⟩ := HI.out w1 hk01
    have cL : w1.cell? ⟨w.heap.size, 1, none⟩ = some (.slice (some ⟨b, off, none⟩) L.length q) := by rw [bL.cell]; rfl
    have hltz : (i : Int) < (L.length : Int) := by omega
    have lb := lt_cellL c0
    have lL := bL.lt
    have lR := bR.lt
    have r0 : w1.cell? ⟨w.heap.size + 1, 0, none⟩ = some (.int .i64 0) := by rw [bR.cell]; rfl
    have r1 : w1.cell? ⟨w.heap.size + 1, 1, none⟩ = some (.int .i64 0) := by rw [bR.cell]; rfl
    have r2 : w1.cell? ⟨w.heap.size + 1, 2, none⟩ = some (.int .i64 0) := by rw [bR.cell]; rfl
    have r3 : w1.cell? ⟨w.heap.size + 1, 3, none⟩ = some (.string ⟨#[]⟩) := by rw [bR.cell]; rfl
    have f0 := bR.free 0
    have f1 := bR.free 1
    have f2 := bR.free 2
    have f3 := bR.free 3
    have HR := Lib.hid bR
    clear bL bR HI hk1
    go_wp2_with fail
    go_at_call 143
    (with_reducible refine (KW.out _).mono ?_)
    rintro e w2 ⟨rfl, rfl⟩
    go_wp2
    have B := (((((HR.out.set 0 (.int .i64 1)).set 1 (.int .i64 i)).set 2 (.int .i64 xb)).set 3 (.string s)).alloc (.cells #[.string s, .int .i64 xa, .int .i64 xb, .int .i64 xk, .int .i64 xm, .int .i64 xd, .int .i64 xo, .int .i64 xw, .int .i64 xc] 107)).alloc (.cells #[.int .i64 1, .int .i64 i, .int .i64 xb, .string s] 166)
    have q0 := B.cell 0
    have q1 := B.cell 1
    have q2 := B.cell 2
    have q3 := B.cell 3
    refine bodyPost_ret (v := .tuple #[.agg #[.int .i64 1, .int .i64 i, .int .i64 xb, .string s], .int .i64 0]) (by simp [results, Tryz.results154, go_sem, q0, q1, q2, q3]) rfl ?_
    exact ⟨rfl, Kept.drew (Kept.alloc (Kept.alloc (Kept.setCell (Kept.setCell (Kept.setCell (Kept.setCell hk01 (by dsimp only; omega) _) (by dsimp only; omega) _) (by dsimp only; omega) _) (by dsimp only; omega) _) _) _)⟩
end Go.Proofs.YtblaphkaklocfaaGreatDoor
/- Contract: candidate.proper. -/
namespace Go.Proofs.YtblaphkaklocfaaGreatDoor
open Go.ChangeShapes Go.WideShapes Go.ChangeAt Go.RowKit Go.Maps Go.ChangeMaps Go.MapKept
set_option maxHeartbeats 4000000
set_option maxRecDepth 20000

theorem wf64 {n : Int} (h : -9223372036854775808 ≤ n ∧ n ≤ 9223372036854775807) : (Lit.int .i64 n).wf = true := by
  simp [Lit.wf, IntKind.min, IntKind.max, IntKind.signed, IntKind.bits]; omega
/-- How a slice of the map reads: where it lies. -/
def slElem (v : Value) : Option (DataW Unit × List MemPlace) :=
  match v with
  | .slice none 0 0 => some (.lit (.int .i64 (-1)), [])
  | .slice (some ⟨g, 0, none⟩) n c => some (.agg [.lit (.int .i64 g), .lit (.int .i64 n), .lit (.int .i64 c)], [])
  | _ => none
def slD (v : Value) : DataW Unit := match slElem v with
  | some (d, _) => d
  | none => .lit (.int .i64 (-1))
def IsSl (v : Value) : Prop := v = .slice none 0 0 ∨ ∃ g n c, v = .slice (some ⟨g, 0, none⟩) n c
theorem slElem_of {v : Value} (h : IsSl v) : slElem v = some (slD v, []) := by
  rcases h with rfl | ⟨g, n, c, rfl⟩ <;> rfl
theorem slElem_inj {v V : Value} {ps : List MemPlace} (hV : IsSl V) (h : slElem v = some (slD V, ps)) : v = V := by
  match v, h with
  | .slice none 0 0, h =>
    rcases hV with rfl | ⟨g, n, c, rfl⟩
    · rfl
    · simp [slElem, slD] at h
  | .slice (some ⟨g', 0, none⟩) n' c', h =>
    rcases hV with rfl | ⟨g, n, c, rfl⟩
    · simp [slElem, slD] at h
    · simp only [slElem, slD, Option.some.injEq, Prod.mk.injEq, DataW.agg.injEq, List.cons.injEq, DataW.lit.injEq, Lit.int.injEq, true_and, and_true] at h
      have a : g' = g := by omega
      have b : n' = n := by omega
      have d : c' = c := by omega
      rw [a, b, d]
theorem isSl_owns {w : World} {b n s : Nat} {e : TypeId} {v : Value} {xs : List Value} (h : w.ownsRow b e s v n xs) : IsSl v := by
  obtain ⟨_, ⟨rfl, _⟩ | ⟨g, cap, cur, rfl, _⟩⟩ := h
  · exact .inl rfl
  · exact .inr ⟨_, _, _, rfl⟩
theorem under_mc : Tryz.prog.underlying 209 = some (.map 3 165) := by kernel_rfl
theorem zero_sl (w : World) : (zeroValue 165).run Tryz.prog w = .ok (.slice none 0 0) w := by kernel_rfl
theorem key_i : Keyed Tryz.prog 3 := int_keyed Tryz.underlying3
theorem info_cand : (Tryz.prog.info? 166).map (fun i => (i.zero, i.size, i.bytes)) = some (some (.agg #[.int .i64 0, .int .i64 0, .int .i64 0, .string ⟨#[]⟩]), 4, 40) := by kernel_rfl
/-- Candidates as they lie in a row. -/
def flatC (l : List Cand) : List Value := l.flatMap Cand.vals
theorem flatC_snoc (l : List Cand) (c : Cand) : flatC (l ++ [c]) = flatC l ++ c.vals := by simp [flatC]
theorem flatC_append (l m : List Cand) : flatC (l ++ m) = flatC l ++ flatC m := by simp [flatC]
theorem flatC_len (l : List Cand) : (flatC l).length = l.length * 4 := by
  induction l with
  | nil => rfl
  | cons x t ih =>
    have : flatC (x :: t) = x.vals ++ flatC t := rfl
    rw [this, List.length_append, ih]
    simp [Cand.vals]
    omega
theorem flatC_one (l : List Cand) : ∀ u ∈ flatC l, u.oneCell' = true := by
  intro u hu
  unfold flatC at hu
  rw [List.mem_flatMap] at hu
  obtain ⟨r, _, h⟩ := hu
  simp only [Cand.vals, List.mem_cons, List.not_mem_nil, or_false] at h
  rcases h with h | h | h | h <;> (subst h; simp [Value.oneCell'])
theorem propF_snoc (day y : Int) (r : Rec) : ∀ (l : List Rec) (k : Nat), propF day y k (l ++ [r]) = propF day y k l ++ (if recDay y r = day then [⟨2, k + l.length, r.a, r.s⟩] else []) := by
  intro l
  induction l with
  | nil => intro k; simp only [List.nil_append, propF, List.length_nil, Nat.add_zero]
  | cons x t ih =>
    intro k
    simp only [List.cons_append, propF, ih, List.length_cons]
    have : k + 1 + t.length = k + (t.length + 1) := by omega
    rw [this]
    split <;> simp
theorem propF_len (day y : Int) : ∀ (l : List Rec) (k : Nat), (propF day y k l).length ≤ l.length := by
  intro l
  induction l with
  | nil => intro k; simp [propF]
  | cons x t ih =>
    intro k
    have := ih (k + 1)
    simp only [propF, List.length_cons]
    split <;> simp <;> omega
/-- The map of the candidates by their days, once j feasts have been laid into it. -/
structure PropSt (B : Nat) (y : Int) (M : List Rec) (j : Nat) (V : Int → Value) (D : DataW Unit) (w : World) : Prop where
  own : w.ownsMap Tryz.prog 3 slElem B j D
  isM : IsMap D
  at_ : ∀ k : Int, D.atKey (.int .i64 k) (slD (.slice none 0 0)) = slD (V k)
  row : ∀ k : Int, w.ownsRow (B + 1) 166 4 (V k) (propF k y 0 (M.take j)).length (flatC (propF k y 0 (M.take j)))
  apart : ∀ k k' : Int, k ≠ k' → (V k).ownBlock = none ∨ (V k).ownBlock ≠ (V k').ownBlock
theorem ownsMap_kept {w w' : World} {b n : Nat} {D : DataW Unit} (h : w.ownsMap Tryz.prog 3 slElem b n D) (k : Kept w w') : w'.ownsMap Tryz.prog 3 slElem b n D := by
  have hlt := h.lt
  obtain ⟨es, cl, h1, h2⟩ := h
  exact ⟨es, cl, (k.block b hlt).trans h1, h2⟩
theorem PropSt.kept {B : Nat} {y : Int} {M : List Rec} {j : Nat} {V : Int → Value} {D : DataW Unit} {w w' : World} (h : PropSt B y M j V D w) (k : Kept w w') : PropSt B y M j V D w' :=
  ⟨ownsMap_kept h.own k, h.isM, h.at_, fun i => owns_kept (h.row i) k, h.apart⟩
theorem PropSt.look {B : Nat} {y : Int} {M : List Rec} {j : Nat} {V : Int → Value} {D : DataW Unit} {w : World} (h : PropSt B y M j V D w) (k : Int) (hk : -9223372036854775808 ≤ k ∧ k ≤ 9223372036854775807) :
    (Instr.lookup 209 (.map (some B)) (.int .i64 k) false).run Tryz.prog w = .ok (V k) w := by
  obtain ⟨v, ps, hrun, hv⟩ := h.own.lookup (t := 209) (e := 165) key_i under_mc (zero_sl w) (zd := slD (.slice none 0 0)) (zp := []) rfl (keyOf_int_mk Tryz.underlying3 (a := k) (by simp [Lit.wf, IntKind.min, IntKind.max, IntKind.signed, IntKind.bits]; omega))
  rw [h.at_] at hv
  rw [hrun, slElem_inj (isSl_owns (h.row k)) hv]
theorem PropSt.start (w : World) (y : Int) (M : List Rec) : PropSt w.heap.size y M 0 (fun _ => .slice none 0 0) (.map []) (w.alloc (.map #[] 0)) :=
  ⟨World.ownsMap_made w Tryz.prog 3 slElem, isMap_empty, fun k => rfl, fun k => by
    have : propF k y 0 (M.take 0) = [] := by simp [propF]
    rw [this]
    exact World.ownsRow_nil _ _ _ _, fun _ _ _ => .inl rfl⟩
theorem owns_grown {w w' : World} {b n s : Nat} {e : TypeId} {v : Value} {xs : List Value} {row : Option Nat} (h : w.ownsRow b e s v n xs) (g : w.grownBy w' row) (hne : v.ownBlock = none ∨ v.ownBlock ≠ row) : w'.ownsRow b e s v n xs := by
  obtain ⟨h1, h2 | ⟨k, cap, cur, rfl, h4, h5, h6⟩⟩ := h
  · exact ⟨h1, .inl h2⟩
  · refine ⟨h1, .inr ⟨k, cap, cur, rfl, h4, (g.block k (Array.getElem?_eq_some_iff.1 h5).1 ?_).trans h5, h6⟩⟩
    rcases hne with h | h
    · cases h
    · exact h
theorem PropSt.step {B : Nat} {y : Int} {M : List Rec} {j : Nat} {V : Int → Value} {D : DataW Unit} {w w1 w2 w3 : World} (h : PropSt B y M j V D w) (hj : j < M.length) (k1 : Kept w w1) (v' : Value)
    (hv : w2.ownsRow (B + 1) 166 4 v' ((propF (recDay y M[j]!) y 0 (M.take j)).length + 1) (flatC (propF (recDay y M[j]!) y 0 (M.take j)) ++ [.int .i64 2, .int .i64 j, .int .i64 (M[j]!).a, .string (M[j]!).s])) (hg : w1.grownBy w2 (V (recDay y M[j]!)).ownBlock)
    (hloc : v'.ownBlock = (V (recDay y M[j]!)).ownBlock ∨ v'.ownBlock = some w1.heap.size)
    (hm : w3.ownsMap Tryz.prog 3 slElem B (j + 1) (D.put (.int .i64 (recDay y M[j]!)) (slD v'))) (hg2 : w2.grownBy w3 (some B)) :
    PropSt B y M (j + 1) (fun k => if k = recDay y M[j]! then v' else V k) (D.put (.int .i64 (recDay y M[j]!)) (slD v')) w3 := by
  have hT : ∀ k : Int, propF k y 0 (M.take (j + 1)) = propF k y 0 (M.take j) ++ (if recDay y M[j]! = k then [⟨2, j, (M[j]!).a, (M[j]!).s⟩] else []) := fun k => by
    rw [take_ids M j hj, propF_snoc]
    have : (M.take j).length = j := by simp; omega
    rw [this, Nat.zero_add]
  have hb : ∀ {w : World} {v : Value} {n s : Nat} {e : TypeId} {xs : List Value}, w.ownsRow (B + 1) e s v n xs → v.ownBlock = none ∨ v.ownBlock ≠ some B := fun {w v n s e xs} h => by
    cases ho : v.ownBlock with
    | none => exact .inl rfl
    | some k => exact .inr (fun e => by have := (h.lt k ho).1; injection e with e; omega)
  refine ⟨hm, h.isM.put _ _, fun k => ?_, fun k => ?_, fun k k' hne => ?_⟩
  · by_cases e : k = recDay y M[j]!
    · rw [e, if_pos rfl, Maps.atKey_put_same h.isM (by trivial)]
    · rw [if_neg e, Maps.atKey_put_other (fun g => e (by injection g)), h.at_]
  · rw [hT k]
    by_cases e : k = recDay y M[j]!
    · rw [if_pos e, if_pos e.symm, e]
      have := owns_grown hv hg2 (hb hv)
      rw [List.length_append, flatC_append]
      exact this
    · rw [if_neg e, if_neg (fun g => e g.symm), List.append_nil]
      have r1 := owns_kept (h.row k) k1
      exact owns_grown (owns_grown r1 hg (h.apart k _ e)) hg2 (hb r1)
  · have hx : ∀ k, k ≠ recDay y M[j]! → v'.ownBlock = none ∨ v'.ownBlock ≠ (V k).ownBlock := fun k e => by
      rcases hloc with hl | hl
      · rw [hl]
        exact h.apart _ _ (fun g => e g.symm)
      · rw [hl]
        refine .inr (fun g => ?_)
        have := ((owns_kept (h.row k) k1).lt _ g.symm).2
        omega
    by_cases e : k = recDay y M[j]!
    · rw [if_pos e, if_neg (fun g => hne (e.trans g.symm))]
      exact hx k' (fun g => hne (e.trans g.symm))
    · rw [if_neg e]
      by_cases e' : k' = recDay y M[j]!
      · rw [if_pos e']
        rcases hx k e with h1 | h1
        · by_cases h2 : (V k).ownBlock = none
          · exact .inl h2
          · exact .inr (fun g => h2 (g.trans h1))
        · exact .inr (fun g => h1 g.symm)
      · rw [if_neg e']
        exact h.apart k k' hne
end Go.Proofs.YtblaphkaklocfaaGreatDoor
/- Contract: candidate.proper. -/
namespace Go.Proofs.YtblaphkaklocfaaGreatDoor
open Go.ChangeShapes Go.WideShapes Go.ChangeAt Go.RowKit Go.Maps Go.ChangeMaps Go.MapKept
set_option maxHeartbeats 8000000
set_option maxRecDepth 20000

theorem cell_four_new (w : World) (a b c d : Value) (t : TypeId) : ∀ j u, [a, b, c, d][j]? = some u → (w.alloc (.cells #[a, b, c, d] t)).cell? ((⟨w.heap.size, 0, none⟩ : Addr).add j) = some u := by
  intro j u hj
  match j, hj with
  | 0, hj => simp at hj; subst hj; simp [Addr.add]
  | 1, hj => simp at hj; subst hj; simp [Addr.add]
  | 2, hj => simp at hj; subst hj; simp [Addr.add]
  | 3, hj => simp at hj; subst hj; simp [Addr.add]
theorem ownsMap_grown {w w' : World} {b n : Nat} {D : DataW Unit} {row : Option Nat} (h : w.ownsMap Tryz.prog 3 slElem b n D) (g : w.grownBy w' row) (hne : some b ≠ row) : w'.ownsMap Tryz.prog 3 slElem b n D := by
  have hlt := h.lt
  obtain ⟨es, cl, h1, h2⟩ := h
  exact ⟨es, cl, (g.block b hlt hne).trans h1, h2⟩
theorem proper_ok {f y : Int} {L M : List Rec} (C : Ctx f L M y) (o o' : Option Addr) (q q' : Nat) (w : World) (I : Cin w o o' L M) :
    Calls Tryz.prog 153 #[catV f o o' q q' L M, .int .i64 y] w fun e w' => ∃ B V D, w.heap.size ≤ B ∧ e = .returned (.map (some B)) ∧ PropSt B y M M.length V D w' ∧ Kept w w' := by
  obtain ⟨i0, hi, hz0, hz1, hz2⟩ := info_parts info_cand
  obtain ⟨_, _, hm4, _, hfea, _⟩ := catB_parts C.hB
  have hmm := @run_makeMap Tryz.prog
  have HA := Lib.hid (fun j hj => feaR_anc (hfea _ (mem_at M j hj)))
  have HI := Lib.hid (fun w' (k : Kept w w') => I.kept k)
  have HK := Lib.hid (fun j hj => C.okM _ (mem_at M j hj))
  have h1 := C.h1
  have h2 := C.h2
  have HS := Lib.hid (PropSt.start (w.alloc (.cells #[.int .i64 f, .slice o L.length q, .slice o' M.length q'] 45)) y M)
  rw [World.size_alloc] at HS
  clear hfea I C
  go_enter Tryz.func153, Tryz.ntmps153
  go_wp2
  go_loopw [14] (fun i wr => ∃ (j : Nat) (V : Int → Value) (D : DataW Unit), j ≤ M.length ∧ i = .int .i64 j ∧ PropSt (w.heap.size + 1) y M j V D wr ∧ Kept w wr) (fun i _ => (M.length - intOf i).toNat)
  case atStart => exact ⟨0, _, _, by omega, rfl, HS.out, (by repeat (first | with_reducible exact Kept.refl _ | with_reducible assumption | with_reducible refine Kept.drew ?_ | with_reducible refine Kept.drewN ?_ _ | with_reducible refine Kept.alloc ?_ _ | (with_reducible refine Kept.setCell ?_ (by first | exact Nat.le_refl _ | omega | (simp; done) | (simp; omega)) _) | (with_reducible refine Kept.trans ?_ (by with_reducible assumption))))⟩
  case round =>
    obtain ⟨j, V, D, hj, rfl, hP, hkr⟩ := hrel
    by_cases hlt : j < M.length
    · obtain ⟨b, off, rfl, c0, c1, c2, c3, c4, c5, c6, c7, c8⟩ := (HI.out wr hkr).hM.cells j hlt
      have hok := HK.out j hlt
      have hanc := HA.out j hlt
      have hbd := recDay_bd y M[j]! hanc h1 h2
      have HST := Lib.hid (fun (w1 w2 w3 : World) (v' : Value) => hP.step (w1 := w1) (w2 := w2) (w3 := w3) hlt (v' := v'))
      have hPl := propF_len (recDay y M[j]!) y (M.take j) 0
      have hPl2 : (M.take j).length ≤ 400 := by simp; omega
      have HPk := Lib.hid (fun w' (k : Kept wr w') => hP.kept k)
      have HR := Lib.hid (show recDay y M[j]! = ancDay (M[j]!).k (M[j]!).m (M[j]!).d (M[j]!).o (M[j]!).wd (M[j]!).c y from rfl)
      clear hP
      generalize M[j]! = r at *
      obtain ⟨s, xa, xb, xk, xm, xd, xo, xw, xc⟩ := r
      dsimp only at c0 c1 c2 c3 c4 c5 c6 c7 c8 HR hanc HST
      obtain ⟨hs1, hs2⟩ := hok
      dsimp only at hs1 hs2
      have KA := Lib.hid (fun w' (k : Kept wr w') => ADay_ok xk xm xd xo xw xc y w' (HI.out w' (hkr.trans k)).hT hanc hs2 h1 h2)
      rw [← HR.out] at KA
      generalize recDay y ⟨s, xa, xb, xk, xm, xd, xo, xw, xc⟩ = n at *
      clear hanc HR
      go_wp2_with fail
      go_at_call 208
      (with_reducible refine (KA.out _ ?_).mono ?_)
      · exact (by repeat (first | with_reducible exact Kept.refl _ | with_reducible assumption | with_reducible refine Kept.drew ?_ | with_reducible refine Kept.drewN ?_ _ | with_reducible refine Kept.alloc ?_ _ | (with_reducible refine Kept.setCell ?_ (by first | exact Nat.le_refl _ | omega | (simp; done) | (simp; omega)) _) | (with_reducible refine Kept.trans ?_ (by with_reducible assumption))))
      rintro e w2 ⟨rfl, hk2⟩
      have hk3 : Kept wr w2 := Kept.trans ((Kept.refl wr).alloc _) hk2
      have bF := (Blk.new wr _ _).kept hk2
      have d0 : w2.cell? ⟨wr.heap.size, 0, none⟩ = some (.string s) := by rw [bF.cell]; rfl
      have d1 : w2.cell? ⟨wr.heap.size, 1, none⟩ = some (.int .i64 xa) := by rw [bF.cell]; rfl
      have hP2 := HPk.out w2 hk3
      have hrun := hP2.look n (by omega)
      have hrow := (hP2.row n).alloc (.cells #[.int .i64 2, .int .i64 j, .int .i64 xa, .string s] 166)
      have hown := ownsMap_kept hP2.own ((Kept.refl w2).alloc (.cells #[.int .i64 2, .int .i64 j, .int .i64 xa, .string s] 166))
      have hlm := hP2.own.lt
      have Hk3 := Lib.hid hk3
      clear c0 c1 c2 c3 c4 c5 c6 c7 c8 bF hP2 hk3 hk2
      go_wp2_with (first
        | (at_builtin; refine wpList_append_own_at _ rfl _ _ 165 rfl (w.heap.size + 1 + 1) 166 i0 (.agg #[.int .i64 0, .int .i64 0, .int .i64 0, .string ⟨#[]⟩]) 4 40 Tryz.underlying165 hi hz0 hz1 hz2 rfl (by decide) _ _ _ rfl hrow ⟨w2.heap.size, 0, none⟩ 1 1 [.int .i64 2, .int .i64 j, .int .i64 xa, .string s] rfl rfl (cell_four_new _ _ _ _ _ _) (by simp [Value.oneCell']) (by unfold maxLen; omega) (by omega) (by simp; omega) ?_; intro v' w4 hown4 hgrow4 _ hloc4; have hown5 := ownsMap_grown hown hgrow4 (by intro e; have := (hrow.lt _ e.symm).1; omega))
        | fail)
      obtain ⟨w5, hrun5, hown6, hgrow6⟩ := hown5.update (t := 209) (e := 165) key_i under_mc (by unfold maxLen; omega) (keyOf_int_mk Tryz.underlying3 (a := n) (wf64 (by omega))) (val := v') (d := slD v') (ps := []) (slElem_of (isSl_owns hown4))
      rw [hrun5]
      have HP3 := Lib.hid (HST.out _ w4 w5 v' (Hk3.out.alloc _) hown4 hgrow4 hloc4 hown6 hgrow6)
      have hkw5 : Kept w w5 := Below.grown (Below.grown ((hkr.trans Hk3.out).alloc _) hgrow4 (by have := (hkr.trans Hk3.out).size; simp; omega) (fun q e => by have := (hrow.lt q e).1; omega)) hgrow6 (by have := (hkr.trans Hk3.out).size; have := hgrow4.size; simp at this; omega) (fun q e => by cases e; omega)
      clear hown4 hgrow4 hloc4 hown5 hown6 hgrow6 hown hrow HST
      go_wp2
      go_roundw
      case rel => exact ⟨j + 1, _, _, by omega, by go_num, HP3.out, hkw5⟩
      case measure => simp [intOf]; omega
    · obtain rfl : j = M.length := by omega
      have HP3 := Lib.hid hP
      clear hP
      go_wp2
      go_ret
      exact ⟨_, V, D, by omega, rfl, HP3.out, hkr⟩
end Go.Proofs.YtblaphkaklocfaaGreatDoor
/- Contract: candidate.Year. -/
namespace Go.Proofs.YtblaphkaklocfaaGreatDoor
open Go.ChangeShapes Go.WideShapes Go.ChangeAt Go.RowKit Go.Maps Go.ChangeMaps Go.MapKept
set_option maxHeartbeats 8000000
set_option maxRecDepth 20000

theorem Year_cat (f y : Int) (o o' : Option Addr) (q q' : Nat) (L M : List Rec) (w : World) (hL : IsRecs w o L) (hM : IsRecs w o' M) (okL : ∀ r ∈ L, r.ok) (okM : ∀ r ∈ M, r.ok) (hB : catB f L M = false) :
    Calls Tryz.prog 103 #[catV f o o' q q' L M, .int .i64 y] w fun e w' => e = .returned (.tuple #[.slice none 0 0, .int .i64 4]) ∧ Kept w w' := by
  have KC := Lib.hid (fun w' (k : Kept w w') => CCheck_any f o o' q q' L M w' (hL.kept k) (hM.kept k) okL okM)
  rw [hB, chV_f] at KC
  clear hL hM okL okM hB
  go_enter Tryz.func103, Tryz.ntmps103
  go_wp2_with fail
  (go_at_call 152; refine (KC.out _ (by repeat (first | with_reducible exact Kept.refl _ | with_reducible assumption | with_reducible refine Kept.drew ?_ | with_reducible refine Kept.drewN ?_ _ | with_reducible refine Kept.alloc ?_ _ | (with_reducible refine Kept.setCell ?_ (by first | exact Nat.le_refl _ | omega | (simp; done) | (simp; omega)) _) | (with_reducible refine Kept.trans ?_ (by with_reducible assumption))))).mono ?_; rintro e w1 ⟨rfl, hk1⟩)
  have hB1_1 := hk1
  obtain ⟨hc1_1, hf1_1⟩ := kept_cells hB1_1
  have hz1_0_1 : w.heap.size < w1.heap.size := by have := hB1_1.size; simp at this; omega
  go_wp2
  go_ret2
  exact ⟨rfl, (by repeat (first | with_reducible exact Kept.refl _ | with_reducible assumption | with_reducible refine Kept.drew ?_ | with_reducible refine Kept.drewN ?_ _ | with_reducible refine Kept.alloc ?_ _ | (with_reducible refine Kept.setCell ?_ (by first | exact Nat.le_refl _ | omega | (simp; done) | (simp; omega)) _) | (with_reducible refine Kept.trans ?_ (by with_reducible assumption))))⟩
theorem First_some (y : Int) (w : World) : Calls Tryz.prog 105 #[.int .i64 y] w fun e w' => ∃ n x, e = .returned (.tuple #[.int .i64 n, .int .i64 x]) ∧ w = w' := by
  by_cases h : y < 1 ∨ 1000000000 < y
  · exact (First_no y w h).mono fun e w' hh => ⟨_, _, hh⟩
  · exact (First_ok y w (by omega) (by omega)).mono fun e w' hh => ⟨_, _, hh⟩
theorem Year_range (f y : Int) (o o' : Option Addr) (q q' : Nat) (L M : List Rec) (w : World) (hL : IsRecs w o L) (hM : IsRecs w o' M) (okL : ∀ r ∈ L, r.ok) (okM : ∀ r ∈ M, r.ok) (hB : catB f L M = true) (h : y < 1583 ∨ 1000000000 < y) :
    Calls Tryz.prog 103 #[catV f o o' q q' L M, .int .i64 y] w fun e w' => e = .returned (.tuple #[.slice none 0 0, .int .i64 1]) ∧ Kept w w' := by
  have KC := Lib.hid (fun w' (k : Kept w w') => CCheck_any f o o' q q' L M w' (hL.kept k) (hM.kept k) okL okM)
  have KF := Lib.hid (fun w => First_some y w)
  rw [hB, chV_t] at KC
  clear hL hM okL okM hB
  by_cases hy : y < 1583
  · go_enter Tryz.func103, Tryz.ntmps103
    go_wp2_with fail
    (go_at_call 152; refine (KC.out _ (by repeat (first | with_reducible exact Kept.refl _ | with_reducible assumption | with_reducible refine Kept.drew ?_ | with_reducible refine Kept.drewN ?_ _ | with_reducible refine Kept.alloc ?_ _ | (with_reducible refine Kept.setCell ?_ (by first | exact Nat.le_refl _ | omega | (simp; done) | (simp; omega)) _) | (with_reducible refine Kept.trans ?_ (by with_reducible assumption))))).mono ?_; rintro e w1 ⟨rfl, hk1⟩)
    have hB1_1 := hk1
    obtain ⟨hc1_1, hf1_1⟩ := kept_cells hB1_1
    have hz1_0_1 : w.heap.size < w1.heap.size := by have := hB1_1.size; simp at this; omega
    go_wp2_with fail
    go_at_call 105
    (with_reducible refine (KF.out _).mono ?_)
    rintro e wx ⟨n, x, rfl, rfl⟩
    go_wp2
    go_ret2
    exact ⟨rfl, (by repeat (first | with_reducible exact Kept.refl _ | with_reducible assumption | with_reducible refine Kept.drew ?_ | with_reducible refine Kept.drewN ?_ _ | with_reducible refine Kept.alloc ?_ _ | (with_reducible refine Kept.setCell ?_ (by first | exact Nat.le_refl _ | omega | (simp; done) | (simp; omega)) _) | (with_reducible refine Kept.trans ?_ (by with_reducible assumption))))⟩
  · have hy2 : 1000000000 < y := by omega
    go_enter Tryz.func103, Tryz.ntmps103
    go_wp2_with fail
    (go_at_call 152; refine (KC.out _ (by repeat (first | with_reducible exact Kept.refl _ | with_reducible assumption | with_reducible refine Kept.drew ?_ | with_reducible refine Kept.drewN ?_ _ | with_reducible refine Kept.alloc ?_ _ | (with_reducible refine Kept.setCell ?_ (by first | exact Nat.le_refl _ | omega | (simp; done) | (simp; omega)) _) | (with_reducible refine Kept.trans ?_ (by with_reducible assumption))))).mono ?_; rintro e w1 ⟨rfl, hk1⟩)
    have hB1_1 := hk1
    obtain ⟨hc1_1, hf1_1⟩ := kept_cells hB1_1
    have hz1_0_1 : w.heap.size < w1.heap.size := by have := hB1_1.size; simp at this; omega
    go_wp2_with fail
    go_at_call 105
    (with_reducible refine (KF.out _).mono ?_)
    rintro e wx ⟨n, x, rfl, rfl⟩
    go_wp2
    go_ret2
    exact ⟨rfl, (by repeat (first | with_reducible exact Kept.refl _ | with_reducible assumption | with_reducible refine Kept.drew ?_ | with_reducible refine Kept.drewN ?_ _ | with_reducible refine Kept.alloc ?_ _ | (with_reducible refine Kept.setCell ?_ (by first | exact Nat.le_refl _ | omega | (simp; done) | (simp; omega)) _) | (with_reducible refine Kept.trans ?_ (by with_reducible assumption))))⟩
theorem info_slc : (Tryz.prog.info? 165).map (fun i => (i.zero, i.size, i.bytes)) = some (some (.slice none 0 0), 1, 24) := by kernel_rfl
abbrev candsY (L M : List Rec) (y : Int) (i : Nat) : List Cand := candsAt L M y (fst 2 y) (fst 2 y + i)
/-- Slices of candidates that lie one behind the other, each with a row of its own. -/
def CandRows (b : Nat) (w : World) (F : Nat → List Cand) (vs : List Value) : Prop := ∀ i, i < vs.length → w.ownsRow b 166 4 vs[i]! (F i).length (flatC (F i))
theorem CandRows.kept {b : Nat} {w w' : World} {F : Nat → List Cand} {vs : List Value} (h : CandRows b w F vs) (k : Kept w w') : CandRows b w' F vs := fun i hi => owns_kept (h i hi) k
theorem owns_types {w : World} {b n s b' n' s' : Nat} {e e' : TypeId} {v v' : Value} {xs xs' : List Value} (h : w.ownsRow b e s v n xs) (h' : w.ownsRow b' e' s' v' n' xs') (hne : e ≠ e') : v.ownBlock = none ∨ v.ownBlock ≠ v'.ownBlock := by
  obtain ⟨h1, ⟨rfl, _⟩ | ⟨g, cap, cur, rfl, h4, h5, h6⟩⟩ := h
  · exact .inl rfl
  · obtain ⟨h1', ⟨rfl, _⟩ | ⟨g', cap', cur', rfl, h4', h5', h6'⟩⟩ := h'
    · exact .inr (fun e => by cases e)
    · refine .inr (fun e => ?_)
      have e3 : g = g' := by injection e
      subst e3
      rw [h5] at h5'
      injection h5' with h5'
      injection h5' with _ h5' _
      exact hne h5'
theorem CandRows.grown {b : Nat} {w w' : World} {F : Nat → List Cand} {vs : List Value} (h : CandRows b w F vs) {v : Value} {e : TypeId} {b' n s : Nat} {xs : List Value} (hv : w.ownsRow b' e s v n xs) (hne : 166 ≠ e) (g : w.grownBy w' v.ownBlock) : CandRows b w' F vs :=
  fun i hi => owns_grown (h i hi) g (owns_types (h i hi) hv hne)
theorem candRows_snoc {b : Nat} {w : World} {F : Nat → List Cand} {vs : List Value} (h : CandRows b w F vs) {v : Value} (hv : w.ownsRow b 166 4 v (F vs.length).length (flatC (F vs.length))) : CandRows b w F (vs ++ [v]) := by
  intro i hi
  by_cases e : i = vs.length
  · subst e
    simpa using hv
  · have hi2 : i < vs.length := by simp at hi; omega
    have := h i hi2
    rw [getElem!_pos vs i hi2] at this
    rw [getElem!_pos (vs ++ [v]) i hi, List.getElem_append_left hi2]
    exact this
end Go.Proofs.YtblaphkaklocfaaGreatDoor

/- Contracts and plain lemmas: App, Ye2. -/
import Derived.Test.YtblaphkaklocfaaGreatDoorG14
import Derived.Test.YtblaphkaklocfaaGreatDoorG16
import Derived.Maps.AppendAt
import Derived.OwnWalk
import Derived.Deep.RegionLawGrows
set_option linter.unusedSimpArgs false
set_option linter.unusedVariables false
set_option linter.unusedSectionVars false
/- An append of a slice that may be empty or nil: as an operation of a walk. No program in sight. -/
namespace Go.Proofs.YtblaphkaklocfaaGreatDoor
open Go.ChangeShapes Go.WideShapes Go.ChangeAt Go.RowKit
set_option maxHeartbeats 4000000
set_option maxRecDepth 20000

theorem run_append_zero {P : Program} (w : World) (t ty e : TypeId) (i : TypeInfo) (ht : P.underlying t = some (.slice e)) (hi : P.info? e = some i)
    (b off n cap : Nat) (hn : n ≤ cap) (xo : Option Addr) (c : Nat) :
    (Builtin.append_ #[t, t] ty #[.slice (some ⟨b, off, none⟩) n cap, .slice xo 0 c]).run P w = .ok (.slice (some ⟨b, off, none⟩) n cap) w := by
  cases xo with
  | some a =>
    have h := run_append_room_cells (P := P) w t ty e i ht hi b off n cap a 0 c [] (by simp) (by simp) (by simp) (by simpa using hn) (by simp) (by simp)
    simp only [Nat.add_zero] at h
    exact h
  | none =>
    have hst := run_storeCells_cells (P := P) b (off + n * i.size) [] 0 w (by simp) (by simp) (by simp)
    simp only [Nat.add_zero] at hst
    simp [Builtin.append_, run_underlying ht, sizeOf, typeInfo, hi, Builtin.lenOf, hn, Builtin.firstCells, Addr.add_lit, hst]
    rfl
theorem wpList_append_zero {P : Program} {ops : Array Oper} {rest : List Oper} {o : Oper} {a : Act} {w : World} {Q : Exit → Act → World → Prop} (hgd : o.guard = none) (s x : Operand) (t : TypeId)
    (ho : o.op = .call { callee := .builtin .append, args := #[s, x], argTypes := #[t, t] }) (e : TypeId) (i : TypeInfo) (ht : P.underlying t = some (.slice e)) (hi : P.info? e = some i)
    (b off n cap : Nat) (hs : a.eval s = .slice (some ⟨b, off, none⟩) n cap) (hn : n ≤ cap) (xo : Option Addr) (c : Nat) (hx : a.eval x = .slice xo 0 c)
    (h : wpList P ops Q rest (a.put o.dst (.slice (some ⟨b, off, none⟩) n cap)) w) : wpList P ops Q (o :: rest) a w := by
  refine wpList_plain hgd fun K hK => ?_
  have hr := run_append_zero (P := P) w t o.type e i ht hi b off n cap hn xo c
  unfold Oper.wp execOp
  simp only [ho, resolve, invoke, builtin, Sem.run_bind, Sem.run_pure, Result.andThen_ok, List.map_toArray, List.map_cons, List.map_nil, hs, hx, hr]
  exact hK _ _ h
/-- append(s, x...): s a row of the call's own that is not nil, x whatever holds 'news' (nil too). -/
theorem wpList_append_src {P : Program} {ops : Array Oper} {rest : List Oper} {o : Oper} {a : Act} {w : World} {Q : Exit → Act → World → Prop} (hgd : o.guard = none) (s x : Operand) (t : TypeId)
    (ho : o.op = .call { callee := .builtin .append, args := #[s, x], argTypes := #[t, t] })
    (base : Nat) (e : TypeId) (i : TypeInfo) (z : Value) (size bytes : Nat) (ht : P.underlying t = some (.slice e)) (hi : P.info? e = some i) (hz : i.zero = some z)
    (hsize : i.size = size) (hby : i.bytes = bytes) (hzs : z.cells.size = size) (hsz : 0 < size)
    (g n cap : Nat) (xs : List Value) (hs : a.eval s = .slice (some ⟨g, 0, none⟩) n cap) (hown : w.ownsRow base e size (.slice (some ⟨g, 0, none⟩) n cap) n xs)
    (b' m : Nat) (vx : Value) (news : List Value) (hsrc : w.ownsRow b' e size vx m news) (hx : a.eval x = vx) (h1 : ∀ u ∈ news, u.oneCell' = true)
    (h63 : n + m ≤ maxLen) (hbytes : (n + m) * bytes ≤ 140737488355328) (hbase : base ≤ w.heap.size)
    (h : ∀ v' w', w'.ownsRow base e size v' (n + m) (xs ++ news) → w.grownBy w' (some g) → wpList P ops Q rest (a.put o.dst v') w') :
    wpList P ops Q (o :: rest) a w := by
  have hlen := hsrc.1
  by_cases hm : m = 0
  · subst hm
    have hnil : news = [] := List.eq_nil_of_length_eq_zero (by omega)
    subst hnil
    have hcap : n ≤ cap := by
      obtain ⟨_, ⟨e1, _⟩ | ⟨g1, cap1, cur, e1, _, _, h5, _⟩⟩ := hown
      · cases e1
      · simp only [Value.slice.injEq] at e1
        omega
    obtain ⟨xo, c, rfl⟩ : ∃ xo c, vx = .slice xo 0 c := by
      obtain ⟨_, ⟨rfl, _⟩ | ⟨g1, cap1, cur, rfl, _⟩⟩ := hsrc
      · exact ⟨_, _, rfl⟩
      · exact ⟨_, _, rfl⟩
    exact wpList_append_zero hgd s x t ho e i ht hi g 0 n cap hs hcap xo c hx (h _ _ (by simpa using hown) ⟨rfl, rfl, rfl, Nat.le_refl _, fun _ _ _ => rfl⟩)
  · have hs2 := hsrc
    obtain ⟨_, ⟨_, e0⟩ | ⟨g1, cap1, cur, rfl, _⟩⟩ := hsrc
    · omega
    · refine wpList_append_own w hgd s x t ho base e i z size bytes ht hi hz hsize hby hzs hsz _ n xs hs hown ⟨g1, 0, none⟩ m cap1 news hx (by rw [hlen]) (fun j u hu => hs2.cells (g := g1) rfl j u hu) h1 h63 hbytes hbase (fun v' w' a1 a2 _ => h v' w' a1 a2)
end Go.Proofs.YtblaphkaklocfaaGreatDoor
/- Contract: candidate.Year at a well-formed catalogue and a year with a calendar. -/
namespace Go.Proofs.YtblaphkaklocfaaGreatDoor
open Go.ChangeShapes Go.WideShapes Go.ChangeAt Go.RowKit Go.Maps Go.ChangeMaps Go.MapKept
set_option maxHeartbeats 16000000
set_option maxRecDepth 20000

theorem inY_of (y : Int) (i : Nat) (h : i < yearLen y) : InY y (fst 2 y + i) := by
  have := fst_succ 2 y
  unfold yearLen at h
  unfold InY
  split at h <;> rename_i hb <;> simp only [hb] at this <;> simp at this <;> omega
theorem lit_owns (w : World) (vs : List Value) (t : TypeId) (s : Nat) (h : vs.length = 1 * s) (b : Nat) (hb : b ≤ w.heap.size) : (w.alloc (.cells vs.toArray t)).ownsRow b t s (.slice (some ⟨w.heap.size, 0, none⟩) 1 1) 1 vs :=
  ⟨h, .inr ⟨w.heap.size, 1, vs.toArray, rfl, hb, Blk.new w _ t, Nat.le_refl _, by unfold maxLen; omega, by simp [h], (show vs.take (1 * s) = vs from by rw [← h]; exact List.take_length)⟩⟩
theorem Year_ok {f y : Int} {L M : List Rec} (C : Ctx f L M y) (o o' : Option Addr) (q q' : Nat) (w : World) (I : Cin w o o' L M) :
    Calls Tryz.prog 103 #[catV f o o' q q' L M, .int .i64 y] w fun e w' => ∃ v vs, e = .returned (.tuple #[v, .int .i64 0]) ∧ vs.length = yearLen y ∧ w'.ownsRow w.heap.size 165 1 v (yearLen y) vs ∧ CandRows w.heap.size w' (candsY L M y) vs ∧ Kept w w' := by
  obtain ⟨i0, hi, hz0, hz1, hz2⟩ := info_parts info_cand
  obtain ⟨iS, hiS, hzS0, hzS1, hzS2⟩ := info_parts info_slc
  have h1 := C.h1
  have h2 := C.h2
  have KC := Lib.hid (fun w' (k : Kept w w') => CCheck_any f o o' q q' L M w' (I.kept k).hL (I.kept k).hM C.okL C.okM)
  rw [C.hB, chV_t] at KC
  have KF := Lib.hid (fun w => First_ok y w (by omega) h2)
  have KL := Lib.hid (fun w => Leap_any y w)
  have KP := Lib.hid (fun w' (k : Kept w w') => proper_ok C o o' q q' w' (I.kept k))
  have hfb := fst_bounds 2 y (by omega) (by omega)
  obtain ⟨_, _, hm4, _, hfea, _⟩ := catB_parts C.hB
  have KT := Lib.hid (fun i (hi : i < yearLen y) w' (k : Kept w w') => temporal_ok C o o' q q' w' (I.kept k) (inY_of y i hi))
  have HCY := Lib.hid (fun i => show candsY L M y i = tempAt L y (fst 2 y + i) :: propF (fst 2 y + i) y 0 M from rfl)
  have HTk := Lib.hid (List.take_length (l := M))
  have hn : yearLen y = if lp 2 y then 366 else 365 := rfl
  have hPl := Lib.hid (fun k => propF_len k y M 0)
  generalize yearLen y = n at *
  have hn2 : n ≤ 366 := by rw [hn]; split <;> omega
  clear I C hfea
  go_enter Tryz.func103, Tryz.ntmps103
  go_wp2_with fail
  (go_at_call 152; refine (KC.out _ (by repeat (first | with_reducible exact Kept.refl _ | with_reducible assumption | with_reducible refine Kept.drew ?_ | with_reducible refine Kept.drewN ?_ _ | with_reducible refine Kept.alloc ?_ _ | (with_reducible refine Kept.setCell ?_ (by first | exact Nat.le_refl _ | omega | (simp; done) | (simp; omega)) _) | (with_reducible refine Kept.trans ?_ (by with_reducible assumption))))).mono ?_; rintro e w1 ⟨rfl, hk1⟩)
  have hB1_1 := hk1
  obtain ⟨hc1_1, hf1_1⟩ := kept_cells hB1_1
  have hz1_0_1 : w.heap.size < w1.heap.size := by have := hB1_1.size; simp at this; omega
  have hk01 : Kept w w1 := ((Kept.refl w).alloc _).trans hk1
  have bC := (Blk.new w _ _).kept hk1
  go_wp2_with fail
  go_at_call 105
  (with_reducible refine (KF.out _).mono ?_)
  rintro e wx ⟨rfl, rfl⟩
  go_wp2_with fail
  go_at_call 150
  (with_reducible refine (KL.out _).mono ?_)
  rintro e wx ⟨rfl, rfl⟩
  have HN := Lib.hid hn
  have c0 : w1.cell? ⟨w.heap.size, 0, none⟩ = some (.int .i64 f) := by rw [bC.cell]; rfl
  have c1 : w1.cell? ⟨w.heap.size, 1, none⟩ = some (.slice o L.length q) := by rw [bC.cell]; rfl
  have c2 : w1.cell? ⟨w.heap.size, 2, none⟩ = some (.slice o' M.length q') := by rw [bC.cell]; rfl
  have lC := bC.lt
  have HbC := Lib.hid bC
  clear KC KF KL bC hn
  cases hb : lp 2 y
  all_goals
    obtain ⟨nz, hnz⟩ : ∃ nz : Nat, n = nz := ⟨n, rfl⟩
    have HN2 := HN.out
    rw [hb] at HN2
    simp only [Bool.false_eq_true, if_false, if_true] at HN2
    clear HN hb hnz
    go_wp2_with fail
    go_at_call 153
    (with_reducible refine (KP.out _ hk01).mono ?_)
    rintro e w2 ⟨B, V, D, hBw, rfl, hP, hk2⟩
    have hk02 := Kept.trans hk01 hk2
    have HbC2 := Lib.hid (HbC.out.kept hk2)
    have HP := Lib.hid hP
    clear KP hP
    go_wp2_with fail
    go_loopw [11, 39] (fun v i wr => ∃ (j : Nat) (vs : List Value), j ≤ n ∧ i = .int .i64 j ∧ vs.length = j ∧ wr.ownsRow w2.heap.size 165 1 v j vs ∧ CandRows w2.heap.size wr (candsY L M y) vs ∧ Kept w2 wr) (fun _ i _ => (n - intOf i).toNat)
    case atStart => exact ⟨0, [], by omega, rfl, rfl, World.ownsRow_nil _ _ _ _, fun i h => by simp at h, Kept.refl _⟩
    case round =>
      obtain ⟨j, vs, hj, rfl, hvl, hown, hrows, hkr⟩ := hrel
      obtain ⟨oo, cc, rfl⟩ := owns_form hown
      by_cases hlt : j < n
      · have d0 : wr.cell? ⟨w.heap.size, 0, none⟩ = some (.int .i64 f) := by rw [(HbC2.out.kept hkr).cell]; rfl
        have d1 : wr.cell? ⟨w.heap.size, 1, none⟩ = some (.slice o L.length q) := by rw [(HbC2.out.kept hkr).cell]; rfl
        have d2 : wr.cell? ⟨w.heap.size, 2, none⟩ = some (.slice o' M.length q') := by rw [(HbC2.out.kept hkr).cell]; rfl
        have KTj := Lib.hid (KT.out j hlt wr (hk02.trans hkr))
        have hw1 : wrap64 (fst 2 y + (j : Int)) = fst 2 y + (j : Int) := by unfold wrap64; omega
        have HC := Lib.hid (HCY.out j)
        have hpl := hPl.out (fst 2 y + (j : Int))
        have hkb : -9223372036854775808 ≤ fst 2 y + (j : Int) ∧ fst 2 y + (j : Int) ≤ 9223372036854775807 := by omega
        have HB := Lib.hid (And.intro hfb hn2)
        generalize fst 2 y = y0 at *
        generalize tempAt L y (y0 + (j : Int)) = tc at *
        have hjn : (j : Int) < (n : Int) := by omega
        obtain ⟨tk, ti, tr, ts⟩ := tc
        dsimp only [candV] at KTj
        go_wp2_with fail
        go_at_call 154
        (with_reducible refine KTj.out.mono ?_)
        rintro e w3 ⟨rfl, hk3⟩
        have hP3 := HP.out.kept ((hkr.trans hk3).alloc (.cells #[.int .i64 tk, .int .i64 ti, .int .i64 tr, .string ts] 166))
        have hrun := (hP3.kept ((Kept.refl _).alloc (.cells #[.int .i64 tk, .int .i64 ti, .int .i64 tr, .string ts] 166))).look (y0 + (j : Int)) hkb
        have hsrc := (hP3.row (y0 + (j : Int))).alloc (.cells #[.int .i64 tk, .int .i64 ti, .int .i64 tr, .string ts] 166)
        rw [HTk.out] at hsrc
        have hsz3 := (hkr.trans hk3).size
        have hlit := lit_owns (w3.alloc (.cells #[.int .i64 tk, .int .i64 ti, .int .i64 tr, .string ts] 166)) [.int .i64 tk, .int .i64 ti, .int .i64 tr, .string ts] 166 4 rfl w2.heap.size (by simp; omega)
        rw [World.size_alloc] at hlit
        have lB := hP3.own.lt
        have hk13 : Kept w2 w3 := hkr.trans hk3
        have hownA := owns_kept hown hk3
        have hrowsA := hrows.kept hk3
        have hltA := fun g e => (hownA.lt g e).2
        clear hP3 hown hrows
        go_wp2_with (first
          | (at_builtin; refine wpList_append_src rfl _ _ 165 rfl w2.heap.size 166 i0 (.agg #[.int .i64 0, .int .i64 0, .int .i64 0, .string ⟨#[]⟩]) 4 40 Tryz.underlying165 hi hz0 hz1 hz2 rfl (by decide) (w3.heap.size + 1) 1 1 _ rfl hlit _ _ _ _ hsrc rfl (flatC_one _) (by unfold maxLen; omega) (by omega) (by simp; omega) ?_; intro v4 w4 hown4 hgrow4; obtain ⟨o4, c4, rfl⟩ := owns_form hown4; have hownB := (owns_grown ((hownA.alloc (.cells #[.int .i64 tk, .int .i64 ti, .int .i64 tr, .string ts] 166)).alloc (.cells #[.int .i64 tk, .int .i64 ti, .int .i64 tr, .string ts] 166)) hgrow4 (.inr (fun e => absurd (hltA _ e) (by omega)))).alloc (.cells #[.slice o4 (1 + (propF (y0 + (j : Int)) y 0 M).length) c4] 165); have hs4 := hgrow4.size; simp only [World.size_alloc] at hs4)
          | (at_builtin; refine wpList_append_own _ rfl _ _ 162 rfl w2.heap.size 165 iS (.slice none 0 0) 1 24 Tryz.underlying162 hiS hzS0 hzS1 hzS2 rfl (by decide) _ _ _ rfl hownB ⟨w4.heap.size, 0, none⟩ 1 1 [.slice o4 (1 + (propF (y0 + (j : Int)) y 0 M).length) c4] rfl rfl (cell_one_new _ _ _) (by simp [Value.oneCell']) (by unfold maxLen; omega) (by omega) (by simp; omega) ?_; intro v6 w6 hown6 hgrow6 _)
          | fail)
        have hg6 : (w4.alloc (.cells #[.slice o4 (1 + (propF (y0 + (j : Int)) y 0 M).length) c4] 165)).grownBy w6 (Value.slice oo j cc).ownBlock := hgrow6
        have rows4 : CandRows w2.heap.size w4 (candsY L M y) vs := fun i hi => owns_grown (((hrowsA i hi).alloc _).alloc _) hgrow4 (.inr (fun e => absurd ((hrowsA i hi).lt _ e).2 (by omega)))
        have row4 : w4.ownsRow w2.heap.size 166 4 (.slice o4 (1 + (propF (y0 + (j : Int)) y 0 M).length) c4) (candsY L M y vs.length).length (flatC (candsY L M y vs.length)) := by
          rw [hvl, HC.out, List.length_cons, Nat.add_comm _ 1]
          exact hown4
        have rows6 : CandRows w2.heap.size w6 (candsY L M y) (vs ++ [.slice o4 (1 + (propF (y0 + (j : Int)) y 0 M).length) c4]) := ((candRows_snoc rows4 row4).kept ((Kept.refl w4).alloc _)).grown hownB (by decide) hg6
        have kw6 : Kept w2 w6 := Below.grown ((Below.grown ((hk13.alloc _).alloc _) hgrow4 (by simp; omega) (fun q e => by cases e; omega)).alloc (by omega) _) hg6 (by simp; omega) (fun q e => (hownB.lt q e).1)
        exact ⟨⟨j + 1, _, by omega, by go_num, by rw [List.length_append, hvl]; rfl, hown6, rows6, kw6⟩, by simp [intOf]; omega⟩
      · obtain rfl : j = n := by omega
        have HO := Lib.hid (owns_base hown hk02.size)
        have HR := Lib.hid (show CandRows w.heap.size wr (candsY L M y) vs from fun i hi => owns_base (hrows i hi) hk02.size)
        clear hown hrows
        go_wp2
        go_ret2
        exact ⟨_, vs, rfl, hvl, HO.out, HR.out, hk02.trans hkr⟩
end Go.Proofs.YtblaphkaklocfaaGreatDoor

/- How the arguments of the laws of layer 17 are opened and shut. -/
import Derived.Test.YthhaicledbcnmaaCat0
import Derived.Deep.Slices
import Derived.Carry
set_option linter.unusedSimpArgs false
set_option linter.unusedVariables false
set_option linter.unusedSectionVars false
namespace Go.Proofs.Ythhaicledbcnmaa
open Go.ChangeShapes Go.WideShapes Go.ChangeAt Go.RowKit Go.Deep
set_option maxHeartbeats 1000000
set_option maxRecDepth 20000

section
variable {H : Type} {enc : TypeId × Value → H} {w : World} {base : Nat} {spare : Nat → Bool} {held : Bool}
theorem cellsS : Try.prog.cellsOf 9 = 1 := by kernel_rfl
theorem cellsJ : Try.prog.cellsOf 3 = 1 := by kernel_rfl
theorem cellsA : Try.prog.cellsOf 27 = 6 := by kernel_rfl
theorem cellsK : Try.prog.cellsOf 25 = 3 := by kernel_rfl
theorem cellsL : Try.prog.cellsOf 22 = 1 := by kernel_rfl
theorem cellsM : Try.prog.cellsOf 23 = 1 := by kernel_rfl
theorem anc_open {n : Nat} {c0 c1 c2 c3 c4 c5 : Value} {x : DataW H × List MemPlace} (h : DataW.trod enc Try.prog w base spare held n 27 [c0, c1, c2, c3, c4, c5] = some x) :
    ∃ k m d o wd c : Int, [c0, c1, c2, c3, c4, c5] = [.int .i64 k, .int .i64 m, .int .i64 d, .int .i64 o, .int .i64 wd, .int .i64 c] ∧ -9223372036854775808 ≤ c ∧ c ≤ 9223372036854775807 := by
  obtain ⟨xs, n', rfl, _, _, hx, hf⟩ := DataW.trod_struct Try.underlying27 h
  have hx : xs.length = 6 := hx
  obtain ⟨y0, y1, y2, y3, y4, y5, rfl⟩ : ∃ y0 y1 y2 y3 y4 y5, xs = [y0, y1, y2, y3, y4, y5] := by
    match xs, hx with
    | [y0, y1, y2, y3, y4, y5], _ => exact ⟨_, _, _, _, _, _, rfl⟩
  have g0 : DataW.trod enc Try.prog w base spare held n' 3 (([c0, c1, c2, c3, c4, c5].drop 0).take (Try.prog.cellsOf 3)) = some y0 := hf 0 _ rfl
  have g1 : DataW.trod enc Try.prog w base spare held n' 3 (([c0, c1, c2, c3, c4, c5].drop 1).take (Try.prog.cellsOf 3)) = some y1 := hf 1 _ rfl
  have g2 : DataW.trod enc Try.prog w base spare held n' 3 (([c0, c1, c2, c3, c4, c5].drop 2).take (Try.prog.cellsOf 3)) = some y2 := hf 2 _ rfl
  have g3 : DataW.trod enc Try.prog w base spare held n' 3 (([c0, c1, c2, c3, c4, c5].drop 3).take (Try.prog.cellsOf 3)) = some y3 := hf 3 _ rfl
  have g4 : DataW.trod enc Try.prog w base spare held n' 3 (([c0, c1, c2, c3, c4, c5].drop 4).take (Try.prog.cellsOf 3)) = some y4 := hf 4 _ rfl
  have g5 : DataW.trod enc Try.prog w base spare held n' 3 (([c0, c1, c2, c3, c4, c5].drop 5).take (Try.prog.cellsOf 3)) = some y5 := hf 5 _ rfl
  rw [cellsJ] at g0 g1 g2 g3 g4 g5
  obtain ⟨k, e0, _, _⟩ := DataW.trod_int Try.underlying3 (show DataW.trod enc Try.prog w base spare held n' 3 [c0] = some y0 from g0)
  obtain ⟨m, e1, _, _⟩ := DataW.trod_int Try.underlying3 (show DataW.trod enc Try.prog w base spare held n' 3 [c1] = some y1 from g1)
  obtain ⟨d, e2, _, _⟩ := DataW.trod_int Try.underlying3 (show DataW.trod enc Try.prog w base spare held n' 3 [c2] = some y2 from g2)
  obtain ⟨o, e3, _, _⟩ := DataW.trod_int Try.underlying3 (show DataW.trod enc Try.prog w base spare held n' 3 [c3] = some y3 from g3)
  obtain ⟨wd, e4, _, _⟩ := DataW.trod_int Try.underlying3 (show DataW.trod enc Try.prog w base spare held n' 3 [c4] = some y4 from g4)
  obtain ⟨c, e5, _, w5⟩ := DataW.trod_int Try.underlying3 (show DataW.trod enc Try.prog w base spare held n' 3 [c5] = some y5 from g5)
  simp at e0 e1 e2 e3 e4 e5
  subst e0 e1 e2 e3 e4 e5
  exact ⟨k, m, d, o, wd, c, rfl, wf_bounds w5⟩
theorem cells_sea : Try.prog.cellsOf 29 = 9 := by kernel_rfl
theorem rec_sea {n : Nat} {cs : List Value} {x : DataW H × List MemPlace} (h : DataW.trod enc Try.prog w base spare held n 29 cs = some x) : ∃ r : Rec, cs = r.vals ∧ r.ok := by
  obtain ⟨xs, n', rfl, _, hl, hx, hf⟩ := DataW.trod_struct Try.underlying29 h
  rw [cells_sea] at hl
  have hx : xs.length = 4 := hx
  obtain ⟨c0, c1, c2, c3, c4, c5, c6, c7, c8, rfl⟩ : ∃ c0 c1 c2 c3 c4 c5 c6 c7 c8, cs = [c0, c1, c2, c3, c4, c5, c6, c7, c8] := by
    match cs, hl with
    | [c0, c1, c2, c3, c4, c5, c6, c7, c8], _ => exact ⟨_, _, _, _, _, _, _, _, _, rfl⟩
  obtain ⟨y0, y1, y2, y3, rfl⟩ : ∃ y0 y1 y2 y3, xs = [y0, y1, y2, y3] := by
    match xs, hx with
    | [y0, y1, y2, y3], _ => exact ⟨_, _, _, _, rfl⟩
  have g0 : DataW.trod enc Try.prog w base spare held n' 9 (([c0, c1, c2, c3, c4, c5, c6, c7, c8].drop 0).take (Try.prog.cellsOf 9)) = some y0 := hf 0 _ rfl
  have g1 : DataW.trod enc Try.prog w base spare held n' 3 (([c0, c1, c2, c3, c4, c5, c6, c7, c8].drop 1).take (Try.prog.cellsOf 3)) = some y1 := hf 1 _ rfl
  have g2 : DataW.trod enc Try.prog w base spare held n' 3 (([c0, c1, c2, c3, c4, c5, c6, c7, c8].drop 2).take (Try.prog.cellsOf 3)) = some y2 := hf 2 _ rfl
  have g3 : DataW.trod enc Try.prog w base spare held n' 27 (([c0, c1, c2, c3, c4, c5, c6, c7, c8].drop 3).take (Try.prog.cellsOf 27)) = some y3 := hf 3 _ rfl
  rw [cellsS] at g0
  rw [cellsJ] at g1 g2
  rw [cellsA] at g3
  obtain ⟨s, e0, _, hs⟩ := DataW.trod_string Try.underlying9 (show DataW.trod enc Try.prog w base spare held n' 9 [c0] = some y0 from g0)
  obtain ⟨a, e1, _, _⟩ := DataW.trod_int Try.underlying3 (show DataW.trod enc Try.prog w base spare held n' 3 [c1] = some y1 from g1)
  obtain ⟨b, e2, _, _⟩ := DataW.trod_int Try.underlying3 (show DataW.trod enc Try.prog w base spare held n' 3 [c2] = some y2 from g2)
  obtain ⟨k, m, d, o, wd, c, e3, hc⟩ := anc_open (show DataW.trod enc Try.prog w base spare held n' 27 [c3, c4, c5, c6, c7, c8] = some y3 from g3)
  simp at e0 e1 e2 e3
  obtain ⟨rfl, rfl, rfl, rfl, rfl, rfl⟩ := e3
  subst e0 e1 e2
  exact ⟨⟨s, a, b, k, m, d, o, wd, c⟩, rfl, hs, hc⟩
theorem cells_fea : Try.prog.cellsOf 31 = 9 := by kernel_rfl
theorem rec_fea {n : Nat} {cs : List Value} {x : DataW H × List MemPlace} (h : DataW.trod enc Try.prog w base spare held n 31 cs = some x) : ∃ r : Rec, cs = r.vals ∧ r.ok := by
  obtain ⟨xs, n', rfl, _, hl, hx, hf⟩ := DataW.trod_struct Try.underlying31 h
  rw [cells_fea] at hl
  have hx : xs.length = 4 := hx
  obtain ⟨c0, c1, c2, c3, c4, c5, c6, c7, c8, rfl⟩ : ∃ c0 c1 c2 c3 c4 c5 c6 c7 c8, cs = [c0, c1, c2, c3, c4, c5, c6, c7, c8] := by
    match cs, hl with
    | [c0, c1, c2, c3, c4, c5, c6, c7, c8], _ => exact ⟨_, _, _, _, _, _, _, _, _, rfl⟩
  obtain ⟨y0, y1, y2, y3, rfl⟩ : ∃ y0 y1 y2 y3, xs = [y0, y1, y2, y3] := by
    match xs, hx with
    | [y0, y1, y2, y3], _ => exact ⟨_, _, _, _, rfl⟩
  have g0 : DataW.trod enc Try.prog w base spare held n' 9 (([c0, c1, c2, c3, c4, c5, c6, c7, c8].drop 0).take (Try.prog.cellsOf 9)) = some y0 := hf 0 _ rfl
  have g1 : DataW.trod enc Try.prog w base spare held n' 3 (([c0, c1, c2, c3, c4, c5, c6, c7, c8].drop 1).take (Try.prog.cellsOf 3)) = some y1 := hf 1 _ rfl
  have g2 : DataW.trod enc Try.prog w base spare held n' 3 (([c0, c1, c2, c3, c4, c5, c6, c7, c8].drop 2).take (Try.prog.cellsOf 3)) = some y2 := hf 2 _ rfl
  have g3 : DataW.trod enc Try.prog w base spare held n' 27 (([c0, c1, c2, c3, c4, c5, c6, c7, c8].drop 3).take (Try.prog.cellsOf 27)) = some y3 := hf 3 _ rfl
  rw [cellsS] at g0
  rw [cellsJ] at g1 g2
  rw [cellsA] at g3
  obtain ⟨s, e0, _, hs⟩ := DataW.trod_string Try.underlying9 (show DataW.trod enc Try.prog w base spare held n' 9 [c0] = some y0 from g0)
  obtain ⟨a, e1, _, _⟩ := DataW.trod_int Try.underlying3 (show DataW.trod enc Try.prog w base spare held n' 3 [c1] = some y1 from g1)
  obtain ⟨b, e2, _, _⟩ := DataW.trod_int Try.underlying3 (show DataW.trod enc Try.prog w base spare held n' 3 [c2] = some y2 from g2)
  obtain ⟨k, m, d, o, wd, c, e3, hc⟩ := anc_open (show DataW.trod enc Try.prog w base spare held n' 27 [c3, c4, c5, c6, c7, c8] = some y3 from g3)
  simp at e0 e1 e2 e3
  obtain ⟨rfl, rfl, rfl, rfl, rfl, rfl⟩ := e3
  subst e0 e1 e2
  exact ⟨⟨s, a, b, k, m, d, o, wd, c⟩, rfl, hs, hc⟩
/-- A slice of seasons or feasts. -/
theorem open_recs {t e : TypeId} {fuel : Nat} {cs : List Value} {x : DataW H × List MemPlace} (ht : Try.prog.underlying t = some (.slice e)) (hC : Try.prog.cellsOf e = 9)
    (hE : ∀ (n : Nat) (cs : List Value) (y : DataW H × List MemPlace), DataW.trod enc Try.prog w base spare held n e cs = some y → ∃ r : Rec, cs = r.vals ∧ r.ok)
    (h : DataW.trod enc Try.prog w base spare held fuel t cs = some x) : ∃ (o : Option Addr) (L : List Rec) (q : Nat), cs = [.slice o L.length q] ∧ IsRecs w o L ∧ (∀ r ∈ L, r.ok) ∧ L.length ≤ maxLen := by
  rcases open_slice ht h with ⟨rfl, _⟩ | ⟨a, len, cap, m, n, D, Pl, rfl, _, hl, hm, hmm, _, hi⟩
  · exact ⟨none, [], 0, rfl, isRecs_nil _ _, fun r hr => by simp at hr, by simp⟩
  · have hlm : len ≤ m := by rw [hmm]; split <;> omega
    have hr : ∀ i, i < len → ∃ r : Rec, r.ok ∧ ∀ j u, r.vals[j]? = some u → w.cell? (a.add (i * 9 + j)) = some u := by
      intro i hil
      obtain ⟨cs', hc, ht'⟩ := hi i (by omega)
      rw [hC] at hc
      obtain ⟨r, rfl, hok⟩ := hE _ _ _ ht'
      obtain ⟨_, hcl, hat⟩ := World.cells?_some hc
      refine ⟨r, hok, fun j u hu => ?_⟩
      have hj : j < 9 := by
        have := (List.getElem?_eq_some_iff.1 hu).1
        simpa [Rec.vals] using this
      rw [← Go.Deep.add_add, hat j hj, hu]
    let g : Nat → Rec := fun i => if hi : i < len then Classical.choose (hr i hi) else default
    have hg : ∀ i, i < len → (g i).ok ∧ ∀ j u, (g i).vals[j]? = some u → w.cell? (a.add (i * 9 + j)) = some u := by
      intro i hil
      have e : g i = Classical.choose (hr i hil) := dif_pos hil
      rw [e]
      exact Classical.choose_spec (hr i hil)
    have hlen : ((List.range len).map g).length = len := by simp
    have hat : ∀ i, i < len → ((List.range len).map g)[i]! = g i := by
      intro i hil
      rw [List.getElem!_eq_getElem?_getD]
      simp [hil]
    refine ⟨some a, (List.range len).map g, cap, by rw [hlen], fun j hj => ?_, fun r hr' => ?_, by rw [hlen]; omega⟩
    · rw [hlen] at hj
      obtain ⟨b, off, spot⟩ := a
      have hsp : spot = none := by
        have := (hg 0 (by omega)).2 0 _ rfl
        simpa [Addr.add] using World.cell?_spot this
      subst hsp
      refine ⟨b, off, rfl, fun i u hu => ?_⟩
      rw [hat j hj] at hu
      have := (hg j hj).2 i u hu
      rw [add_plain] at this
      rw [Nat.add_assoc]
      exact this
    · obtain ⟨i, hi', rfl⟩ := List.mem_map.1 hr'
      exact (hg i (by simpa using hi')).1
/-- A catalogue. -/
theorem open_cat {r : Reach} {b0 : Nat} {v : Value} {d : DataW H} {p : List MemPlace} (hv : Value.okWide Try.prog w r b0 25 v) (h : DataW.Trod enc Try.prog w base spare held 25 v d p) :
    ∃ (f : Int) (o o' : Option Addr) (q q' : Nat) (L M : List Rec), v = .agg #[.int .i64 f, .slice o L.length q, .slice o' M.length q'] ∧ IsRecs w o L ∧ IsRecs w o' M ∧ (∀ r ∈ L, r.ok) ∧ (∀ r ∈ M, r.ok) ∧ L.length ≤ maxLen ∧ M.length ≤ maxLen ∧ -9223372036854775808 ≤ f ∧ f ≤ 9223372036854775807 := by
  obtain ⟨cs, rfl, hsz⟩ := okWide_struct Try.underlying25 hv
  obtain ⟨fuel, h⟩ := h
  rw [cellsK] at hsz
  obtain ⟨l⟩ := cs
  have hsz : l.length = 3 := hsz
  obtain ⟨c0, c1, c2, rfl⟩ : ∃ c0 c1 c2, l = [c0, c1, c2] := by
    match l, hsz with
    | [c0, c1, c2], _ => exact ⟨_, _, _, rfl⟩
  obtain ⟨xs, n', rfl, _, _, hx, hf⟩ := DataW.trod_struct Try.underlying25 h
  have hx : xs.length = 3 := hx
  obtain ⟨y0, y1, y2, rfl⟩ : ∃ y0 y1 y2, xs = [y0, y1, y2] := by
    match xs, hx with
    | [y0, y1, y2], _ => exact ⟨_, _, _, rfl⟩
  have g0 : DataW.trod enc Try.prog w base spare held n' 3 (([c0, c1, c2].drop 0).take (Try.prog.cellsOf 3)) = some y0 := hf 0 _ rfl
  have g1 : DataW.trod enc Try.prog w base spare held n' 22 (([c0, c1, c2].drop 1).take (Try.prog.cellsOf 22)) = some y1 := hf 1 _ rfl
  have g2 : DataW.trod enc Try.prog w base spare held n' 23 (([c0, c1, c2].drop 2).take (Try.prog.cellsOf 23)) = some y2 := hf 2 _ rfl
  rw [cellsJ] at g0
  rw [cellsL] at g1
  rw [cellsM] at g2
  obtain ⟨f, e0, _, wf⟩ := DataW.trod_int Try.underlying3 (show DataW.trod enc Try.prog w base spare held n' 3 [c0] = some y0 from g0)
  obtain ⟨o, L, q, e1, hL, okL, hlL⟩ := open_recs Try.underlying22 cells_sea (fun n cs y hy => rec_sea hy) (show DataW.trod enc Try.prog w base spare held n' 22 [c1] = some y1 from g1)
  obtain ⟨o', M, q', e2, hM, okM, hlM⟩ := open_recs Try.underlying23 cells_fea (fun n cs y hy => rec_fea hy) (show DataW.trod enc Try.prog w base spare held n' 23 [c2] = some y2 from g2)
  simp at e0 e1 e2
  subst e0 e1 e2
  exact ⟨f, o, o', q, q', L, M, rfl, hL, hM, okL, okM, hlL, hlM, wf_bounds wf⟩
theorem open_season {r : Reach} {b0 : Nat} {v : Value} {d : DataW H} {p : List MemPlace} (hv : Value.okWide Try.prog w r b0 29 v) (h : DataW.Trod enc Try.prog w base spare held 29 v d p) : ∃ x : Rec, v = x.val ∧ x.ok := by
  obtain ⟨cs, rfl, hsz⟩ := okWide_struct Try.underlying29 hv
  obtain ⟨fuel, h⟩ := h
  obtain ⟨x, e, hk⟩ := rec_sea h
  have e : cs.toList = x.vals := e
  refine ⟨x, ?_, hk⟩
  obtain ⟨l⟩ := cs
  subst e
  rfl
theorem open_feast {r : Reach} {b0 : Nat} {v : Value} {d : DataW H} {p : List MemPlace} (hv : Value.okWide Try.prog w r b0 31 v) (h : DataW.Trod enc Try.prog w base spare held 31 v d p) : ∃ x : Rec, v = x.val ∧ x.ok := by
  obtain ⟨cs, rfl, hsz⟩ := okWide_struct Try.underlying31 hv
  obtain ⟨fuel, h⟩ := h
  obtain ⟨x, e, hk⟩ := rec_fea h
  have e : cs.toList = x.vals := e
  refine ⟨x, ?_, hk⟩
  obtain ⟨l⟩ := cs
  subst e
  rfl
theorem open_str {r : Reach} {b0 : Nat} {v : Value} {d : DataW H} {p : List MemPlace} (hv : Value.okWide Try.prog w r b0 9 v) (h : DataW.Trod enc Try.prog w base spare held 9 v d p) : ∃ s : ByteArray, v = .string s ∧ s.size ≤ maxLen := by
  obtain ⟨s, rfl⟩ := okWide_string Try.underlying9 hv
  obtain ⟨fuel, h⟩ := h
  obtain ⟨s', e, _, hs⟩ := DataW.trod_string Try.underlying9 h
  have e : [Value.string s] = [.string s'] := e
  simp at e
  subst e
  exact ⟨s, rfl, hs⟩
/-- Every argument reads behind the call as before it. -/
theorem all_kept {ts : List TypeId} {vs : List Value} {ds : List (DataW H)} {ps : List MemPlace} {W W' : World} (hl : laidOutB Try.prog = true) (hr : ∀ t ∈ ts, Try.prog.readableRec t = true ∧ t < Try.prog.types.size)
    (h : DataW.TrodAll enc Try.prog W 0 (fun _ => true) true ts vs ds ps) (hb : Kept W W') (hlt : ∀ x ∈ ps, x.block < W.heap.size) (sp : Nat → Bool) (hs : ∀ x ∈ ps, sp x.block = true) :
    DataW.TrodAll enc Try.prog W' 0 sp true ts vs ds ps := by
  induction ts generalizing vs ds ps with
  | nil =>
    obtain ⟨rfl, rfl, rfl⟩ := trodAll_nil h
    exact trodAll_mk0
  | cons t ts ih =>
    obtain ⟨v, vs', d, ds', p, q, rfl, rfl, rfl, h0, h1⟩ := trodAll_cons h
    obtain ⟨hr0, hr1⟩ := hr t (by simp)
    refine trodAll_cons_mk (WideElems.Trod_stays hl hr0 hr1 h0 (fun x hx => Below.same hb (hlt x (by simp [hx]))) (fun x hx => hs x (by simp [hx]))) ?_
    exact ih (fun t' ht' => hr t' (by simp [ht'])) h1 (fun x hx => hlt x (by simp [hx])) (fun x hx => hs x (by simp [hx]))
end
end Go.Proofs.Ythhaicledbcnmaa

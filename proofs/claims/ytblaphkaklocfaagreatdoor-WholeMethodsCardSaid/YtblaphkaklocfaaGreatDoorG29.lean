/- Contracts and plain lemmas: Bin, Bi2, Bi3. -/
import Derived.Test.YtblaphkaklocfaaGreatDoorG10
import Derived.Test.YtblaphkaklocfaaGreatDoorG23
import Derived.Outline
import Derived.Deep.RegionHeld3
set_option linter.unusedSimpArgs false
set_option linter.unusedVariables false
set_option linter.unusedSectionVars false
/- Contracts: builtin's anchors, seasons, feasts, Catalogue. -/
namespace Go.Proofs.YtblaphkaklocfaaGreatDoor
open Go.ChangeShapes Go.WideShapes Go.ChangeAt Go.RowKit
set_option maxHeartbeats 8000000
set_option maxRecDepth 100000

theorem fixed_ok (m d : Int) (w : World) : Calls Tryz.prog 119 #[.int .i64 m, .int .i64 d] w fun e w' => e = .returned (.agg #[.int .i64 1, .int .i64 m, .int .i64 d, .int .i64 0, .int .i64 0, .int .i64 0]) ∧ Kept w w' := by
  go_enter Tryz.func119, Tryz.ntmps119
  go_wp2
  exact bodyPost_ret (results_cell_row Tryz.results119 _ _ w.heap.size _ #[.int .i64 1, .int .i64 m, .int .i64 d, .int .i64 0, .int .i64 0, .int .i64 0] _ _ rfl (Blk.new w _ _) Tryz.underlying64 rfl (by kernel_rfl)) rfl ⟨rfl, (Kept.refl w).alloc _⟩
theorem pasch_ok (o : Int) (w : World) : Calls Tryz.prog 118 #[.int .i64 o] w fun e w' => e = .returned (.agg #[.int .i64 2, .int .i64 0, .int .i64 0, .int .i64 o, .int .i64 0, .int .i64 0]) ∧ Kept w w' := by
  go_enter Tryz.func118, Tryz.ntmps118
  go_wp2
  exact bodyPost_ret (results_cell_row Tryz.results118 _ _ w.heap.size _ #[.int .i64 2, .int .i64 0, .int .i64 0, .int .i64 o, .int .i64 0, .int .i64 0] _ _ rfl (Blk.new w _ _) Tryz.underlying64 rfl (by kernel_rfl)) rfl ⟨rfl, (Kept.refl w).alloc _⟩
theorem after_ok (wd m d : Int) (w : World) : Calls Tryz.prog 117 #[.int .i64 wd, .int .i64 m, .int .i64 d] w fun e w' => e = .returned (.agg #[.int .i64 3, .int .i64 m, .int .i64 d, .int .i64 0, .int .i64 wd, .int .i64 1]) ∧ Kept w w' := by
  go_enter Tryz.func117, Tryz.ntmps117
  go_wp2
  exact bodyPost_ret (results_cell_row Tryz.results117 _ _ w.heap.size _ #[.int .i64 3, .int .i64 m, .int .i64 d, .int .i64 0, .int .i64 wd, .int .i64 1] _ _ rfl (Blk.new w _ _) Tryz.underlying64 rfl (by kernel_rfl)) rfl ⟨rfl, (Kept.refl w).alloc _⟩
def bSeas : List Rec := [⟨⟨#[98, 97, 112, 116, 105, 115, 109, 45, 116, 105, 100, 101]⟩, 5, 8, 3, 1, 8, 0, 1, 1⟩, ⟨⟨#[108, 101, 110, 116]⟩, 2, 6, 2, 0, 0, (-46), 0, 0⟩, ⟨⟨#[104, 111, 108, 121, 45, 119, 101, 101, 107]⟩, 1, 1, 2, 0, 0, (-7), 0, 0⟩, ⟨⟨#[101, 97, 115, 116, 101, 114, 45, 111, 99, 116, 97, 118, 101]⟩, 1, 1, 2, 0, 0, 0, 0, 0⟩, ⟨⟨#[101, 97, 115, 116, 101, 114, 116, 105, 100, 101]⟩, 2, 8, 2, 0, 0, 8, 0, 0⟩, ⟨⟨#[111, 114, 100, 105, 110, 97, 114, 121, 45, 116, 105, 109, 101]⟩, 5, 8, 2, 0, 0, 50, 0, 0⟩, ⟨⟨#[97, 100, 118, 101, 110, 116]⟩, 2, 7, 3, 11, 27, 0, 0, 1⟩, ⟨⟨#[99, 104, 114, 105, 115, 116, 109, 97, 115]⟩, 3, 6, 1, 12, 25, 0, 0, 0⟩]
def bFeas : List Rec := [⟨⟨#[109, 97, 114, 121, 45, 109, 111, 116, 104, 101, 114, 45, 111, 102, 45, 103, 111, 100]⟩, 1, 2, 1, 1, 1, 0, 0, 0⟩, ⟨⟨#[101, 112, 105, 112, 104, 97, 110, 121]⟩, 1, 2, 1, 1, 6, 0, 0, 0⟩, ⟨⟨#[98, 97, 112, 116, 105, 115, 109, 45, 111, 102, 45, 116, 104, 101, 45, 108, 111, 114, 100]⟩, 2, 3, 3, 1, 7, 0, 0, 1⟩, ⟨⟨#[99, 111, 110, 118, 101, 114, 115, 105, 111, 110, 45, 111, 102, 45, 112, 97, 117, 108]⟩, 4, 3, 1, 1, 25, 0, 0, 0⟩, ⟨⟨#[112, 114, 101, 115, 101, 110, 116, 97, 116, 105, 111, 110]⟩, 2, 3, 1, 2, 2, 0, 0, 0⟩, ⟨⟨#[99, 104, 97, 105, 114, 45, 111, 102, 45, 112, 101, 116, 101, 114]⟩, 4, 2, 1, 2, 22, 0, 0, 0⟩, ⟨⟨#[106, 111, 115, 101, 112, 104]⟩, 1, 1, 1, 3, 19, 0, 0, 0⟩, ⟨⟨#[97, 110, 110, 117, 110, 99, 105, 97, 116, 105, 111, 110]⟩, 1, 1, 1, 3, 25, 0, 0, 0⟩, ⟨⟨#[97, 115, 99, 101, 110, 115, 105, 111, 110]⟩, 1, 2, 2, 0, 0, 39, 0, 0⟩, ⟨⟨#[112, 101, 110, 116, 101, 99, 111, 115, 116]⟩, 1, 2, 2, 0, 0, 49, 0, 0⟩, ⟨⟨#[116, 114, 105, 110, 105, 116, 121]⟩, 1, 2, 2, 0, 0, 56, 0, 0⟩, ⟨⟨#[99, 111, 114, 112, 117, 115, 45, 99, 104, 114, 105, 115, 116, 105]⟩, 1, 2, 2, 0, 0, 60, 0, 0⟩, ⟨⟨#[115, 97, 99, 114, 101, 100, 45, 104, 101, 97, 114, 116]⟩, 1, 2, 2, 0, 0, 68, 0, 0⟩, ⟨⟨#[106, 111, 104, 110, 45, 98, 97, 112, 116, 105, 115, 116]⟩, 1, 1, 1, 6, 24, 0, 0, 0⟩, ⟨⟨#[112, 101, 116, 101, 114, 45, 97, 110, 100, 45, 112, 97, 117, 108]⟩, 1, 1, 1, 6, 29, 0, 0, 0⟩, ⟨⟨#[116, 114, 97, 110, 115, 102, 105, 103, 117, 114, 97, 116, 105, 111, 110]⟩, 2, 3, 1, 8, 6, 0, 0, 0⟩, ⟨⟨#[97, 115, 115, 117, 109, 112, 116, 105, 111, 110]⟩, 1, 2, 1, 8, 15, 0, 0, 0⟩, ⟨⟨#[101, 120, 97, 108, 116, 97, 116, 105, 111, 110, 45, 111, 102, 45, 116, 104, 101, 45, 99, 114, 111, 115, 115]⟩, 2, 3, 1, 9, 14, 0, 0, 0⟩, ⟨⟨#[97, 108, 108, 45, 115, 97, 105, 110, 116, 115]⟩, 1, 2, 1, 11, 1, 0, 0, 0⟩, ⟨⟨#[97, 108, 108, 45, 115, 111, 117, 108, 115]⟩, 3, 3, 1, 11, 2, 0, 0, 0⟩, ⟨⟨#[99, 104, 114, 105, 115, 116, 45, 116, 104, 101, 45, 107, 105, 110, 103]⟩, 1, 3, 3, 11, 20, 0, 0, 1⟩, ⟨⟨#[97, 110, 100, 114, 101, 119]⟩, 4, 2, 1, 11, 30, 0, 0, 0⟩, ⟨⟨#[105, 109, 109, 97, 99, 117, 108, 97, 116, 101, 45, 99, 111, 110, 99, 101, 112, 116, 105, 111, 110]⟩, 1, 1, 1, 12, 8, 0, 0, 0⟩, ⟨⟨#[110, 97, 116, 105, 118, 105, 116, 121]⟩, 1, 2, 1, 12, 25, 0, 0, 0⟩, ⟨⟨#[115, 116, 101, 112, 104, 101, 110]⟩, 4, 2, 1, 12, 26, 0, 0, 0⟩]
theorem flat9_at (L : List Rec) (k : Nat) (h : k < L.length) : ∀ i u, (Rec.vals L[k]!)[i]? = some u → (L.flatMap Rec.vals)[k * 9 + i]? = some u := by
  induction L generalizing k with
  | nil => simp at h
  | cons x s ih =>
    intro i u hu
    have hi : i < 9 := by
      have := (List.getElem?_eq_some_iff.1 hu).1
      simpa [Rec.vals] using this
    have e : (x :: s).flatMap Rec.vals = Rec.vals x ++ s.flatMap Rec.vals := rfl
    rw [e]
    cases k with
    | zero =>
      rw [List.getElem?_append_left (by simp [Rec.vals]; omega)]
      simpa using hu
    | succ k =>
      rw [List.getElem?_append_right (by simp [Rec.vals]; omega)]
      have h2 := ih k (by simpa using h) i u (by simpa using hu)
      have e2 : (k + 1) * 9 + i - (Rec.vals x).length = k * 9 + i := by simp [Rec.vals]; omega
      rw [e2]
      exact h2
theorem isRecs_blk {w : World} {b : Nat} {cs : Array Value} {t : TypeId} (L : List Rec) (h : Blk w b cs t) (e : cs = (L.flatMap Rec.vals).toArray) : IsRecs w (some ⟨b, 0, none⟩) L := by
  intro j hj
  refine ⟨b, 0, rfl, fun i u hu => ?_⟩
  rw [Nat.zero_add, h.cell, e]
  simpa using flat9_at L j hj i u hu
theorem recs_set {w : World} {g R o : Nat} {L : List Rec} (h : IsRecs w (some ⟨g, 0, none⟩) L) (hne : g ≠ R) (u : Value) : IsRecs (w.setCell ⟨R, o, none⟩ u) (some ⟨g, 0, none⟩) L := by
  intro j hj
  obtain ⟨b, off, e, hc⟩ := h j hj
  simp only [Option.some.injEq, Addr.mk.injEq, and_true] at e
  obtain ⟨rfl, rfl⟩ := e
  refine ⟨g, 0, rfl, fun i v hv => ?_⟩
  have hb := Below.heap_setCell w ⟨R, o, none⟩ u g hne
  rw [← hc i v hv]
  simp [World.cell?, hb]
theorem one_seas : (#[.string ⟨#[98, 97, 112, 116, 105, 115, 109, 45, 116, 105, 100, 101]⟩, .int .i64 5, .int .i64 8, .int .i64 3, .int .i64 1, .int .i64 8, .int .i64 0, .int .i64 1, .int .i64 1, .string ⟨#[108, 101, 110, 116]⟩, .int .i64 2, .int .i64 6, .int .i64 2, .int .i64 0, .int .i64 0, .int .i64 (-46), .int .i64 0, .int .i64 0, .string ⟨#[104, 111, 108, 121, 45, 119, 101, 101, 107]⟩, .int .i64 1, .int .i64 1, .int .i64 2, .int .i64 0, .int .i64 0, .int .i64 (-7), .int .i64 0, .int .i64 0, .string ⟨#[101, 97, 115, 116, 101, 114, 45, 111, 99, 116, 97, 118, 101]⟩, .int .i64 1, .int .i64 1, .int .i64 2, .int .i64 0, .int .i64 0, .int .i64 0, .int .i64 0, .int .i64 0, .string ⟨#[101, 97, 115, 116, 101, 114, 116, 105, 100, 101]⟩, .int .i64 2, .int .i64 8, .int .i64 2, .int .i64 0, .int .i64 0, .int .i64 8, .int .i64 0, .int .i64 0, .string ⟨#[111, 114, 100, 105, 110, 97, 114, 121, 45, 116, 105, 109, 101]⟩, .int .i64 5, .int .i64 8, .int .i64 2, .int .i64 0, .int .i64 0, .int .i64 50, .int .i64 0, .int .i64 0, .string ⟨#[97, 100, 118, 101, 110, 116]⟩, .int .i64 2, .int .i64 7, .int .i64 3, .int .i64 11, .int .i64 27, .int .i64 0, .int .i64 0, .int .i64 1, .string ⟨#[99, 104, 114, 105, 115, 116, 109, 97, 115]⟩, .int .i64 3, .int .i64 6, .int .i64 1, .int .i64 12, .int .i64 25, .int .i64 0, .int .i64 0, .int .i64 0] : Array Value).all (fun x => x.oneCell') = true := by simp [Value.oneCell']
theorem info_188 : (Tryz.prog.info? 188).map (·.size) = some 72 := by kernel_rfl
theorem seasons_ok (w : World) : Calls Tryz.prog 74 #[] w fun e w' => ∃ g, e = .returned (.slice (some ⟨g, 0, none⟩) 8 8) ∧ w.heap.size ≤ g ∧ IsRecs w' (some ⟨g, 0, none⟩) bSeas ∧ Kept w w' := by
  go_enter Tryz.func74, Tryz.ntmps74
  go_wp2_with (first
    | (go_at_call 119; (with_reducible refine (fixed_ok _ _ _).mono ?_); rintro e wn ⟨rfl, hk⟩)
    | (go_at_call 118; (with_reducible refine (pasch_ok _ _).mono ?_); rintro e wn ⟨rfl, hk⟩)
    | (go_at_call 117; (with_reducible refine (after_ok _ _ _ _).mono ?_); rintro e wn ⟨rfl, hk⟩)
    | (refine wpList_store_row rfl 188 _ _ rfl wn.heap.size #[.string ⟨#[98, 97, 112, 116, 105, 115, 109, 45, 116, 105, 100, 101]⟩, .int .i64 5, .int .i64 8, .int .i64 3, .int .i64 1, .int .i64 8, .int .i64 0, .int .i64 1, .int .i64 1, .string ⟨#[108, 101, 110, 116]⟩, .int .i64 2, .int .i64 6, .int .i64 2, .int .i64 0, .int .i64 0, .int .i64 (-46), .int .i64 0, .int .i64 0, .string ⟨#[104, 111, 108, 121, 45, 119, 101, 101, 107]⟩, .int .i64 1, .int .i64 1, .int .i64 2, .int .i64 0, .int .i64 0, .int .i64 (-7), .int .i64 0, .int .i64 0, .string ⟨#[101, 97, 115, 116, 101, 114, 45, 111, 99, 116, 97, 118, 101]⟩, .int .i64 1, .int .i64 1, .int .i64 2, .int .i64 0, .int .i64 0, .int .i64 0, .int .i64 0, .int .i64 0, .string ⟨#[101, 97, 115, 116, 101, 114, 116, 105, 100, 101]⟩, .int .i64 2, .int .i64 8, .int .i64 2, .int .i64 0, .int .i64 0, .int .i64 8, .int .i64 0, .int .i64 0, .string ⟨#[111, 114, 100, 105, 110, 97, 114, 121, 45, 116, 105, 109, 101]⟩, .int .i64 5, .int .i64 8, .int .i64 2, .int .i64 0, .int .i64 0, .int .i64 50, .int .i64 0, .int .i64 0, .string ⟨#[97, 100, 118, 101, 110, 116]⟩, .int .i64 2, .int .i64 7, .int .i64 3, .int .i64 11, .int .i64 27, .int .i64 0, .int .i64 0, .int .i64 1, .string ⟨#[99, 104, 114, 105, 115, 116, 109, 97, 115]⟩, .int .i64 3, .int .i64 6, .int .i64 1, .int .i64 12, .int .i64 25, .int .i64 0, .int .i64 0, .int .i64 0] (by kernel_rfl) (by kernel_rfl) _ _ (Blk.new wn _ _) info_188 (by kernel_rfl) one_seas ?_)
    | fail)
  go_ret
  exact ⟨_, rfl, Kept.size (by repeat (first | with_reducible exact Kept.refl _ | with_reducible assumption | with_reducible refine Kept.drew ?_ | with_reducible refine Kept.drewN ?_ _ | with_reducible refine Kept.alloc ?_ _ | (with_reducible refine Kept.setCell ?_ (by first | exact Nat.le_refl _ | omega | (simp; done) | (simp; omega)) _) | (with_reducible refine Kept.trans ?_ (by with_reducible assumption)))), isRecs_blk bSeas (Blk.setRow (Blk.new wn _ _) _) (by kernel_rfl), Kept.setRow (Kept.alloc (by repeat (first | with_reducible exact Kept.refl _ | with_reducible assumption | with_reducible refine Kept.drew ?_ | with_reducible refine Kept.drewN ?_ _ | with_reducible refine Kept.alloc ?_ _ | (with_reducible refine Kept.setCell ?_ (by first | exact Nat.le_refl _ | omega | (simp; done) | (simp; omega)) _) | (with_reducible refine Kept.trans ?_ (by with_reducible assumption)))) _) (Kept.size (by repeat (first | with_reducible exact Kept.refl _ | with_reducible assumption | with_reducible refine Kept.drew ?_ | with_reducible refine Kept.drewN ?_ _ | with_reducible refine Kept.alloc ?_ _ | (with_reducible refine Kept.setCell ?_ (by first | exact Nat.le_refl _ | omega | (simp; done) | (simp; omega)) _) | (with_reducible refine Kept.trans ?_ (by with_reducible assumption))))) _⟩
end Go.Proofs.YtblaphkaklocfaaGreatDoor
/- Contracts: builtin's feasts. -/
namespace Go.Proofs.YtblaphkaklocfaaGreatDoor
open Go.ChangeShapes Go.WideShapes Go.ChangeAt Go.RowKit
set_option maxHeartbeats 20000000
set_option maxRecDepth 100000
theorem one_feas : (#[.string ⟨#[109, 97, 114, 121, 45, 109, 111, 116, 104, 101, 114, 45, 111, 102, 45, 103, 111, 100]⟩, .int .i64 1, .int .i64 2, .int .i64 1, .int .i64 1, .int .i64 1, .int .i64 0, .int .i64 0, .int .i64 0, .string ⟨#[101, 112, 105, 112, 104, 97, 110, 121]⟩, .int .i64 1, .int .i64 2, .int .i64 1, .int .i64 1, .int .i64 6, .int .i64 0, .int .i64 0, .int .i64 0, .string ⟨#[98, 97, 112, 116, 105, 115, 109, 45, 111, 102, 45, 116, 104, 101, 45, 108, 111, 114, 100]⟩, .int .i64 2, .int .i64 3, .int .i64 3, .int .i64 1, .int .i64 7, .int .i64 0, .int .i64 0, .int .i64 1, .string ⟨#[99, 111, 110, 118, 101, 114, 115, 105, 111, 110, 45, 111, 102, 45, 112, 97, 117, 108]⟩, .int .i64 4, .int .i64 3, .int .i64 1, .int .i64 1, .int .i64 25, .int .i64 0, .int .i64 0, .int .i64 0, .string ⟨#[112, 114, 101, 115, 101, 110, 116, 97, 116, 105, 111, 110]⟩, .int .i64 2, .int .i64 3, .int .i64 1, .int .i64 2, .int .i64 2, .int .i64 0, .int .i64 0, .int .i64 0, .string ⟨#[99, 104, 97, 105, 114, 45, 111, 102, 45, 112, 101, 116, 101, 114]⟩, .int .i64 4, .int .i64 2, .int .i64 1, .int .i64 2, .int .i64 22, .int .i64 0, .int .i64 0, .int .i64 0, .string ⟨#[106, 111, 115, 101, 112, 104]⟩, .int .i64 1, .int .i64 1, .int .i64 1, .int .i64 3, .int .i64 19, .int .i64 0, .int .i64 0, .int .i64 0, .string ⟨#[97, 110, 110, 117, 110, 99, 105, 97, 116, 105, 111, 110]⟩, .int .i64 1, .int .i64 1, .int .i64 1, .int .i64 3, .int .i64 25, .int .i64 0, .int .i64 0, .int .i64 0, .string ⟨#[97, 115, 99, 101, 110, 115, 105, 111, 110]⟩, .int .i64 1, .int .i64 2, .int .i64 2, .int .i64 0, .int .i64 0, .int .i64 39, .int .i64 0, .int .i64 0, .string ⟨#[112, 101, 110, 116, 101, 99, 111, 115, 116]⟩, .int .i64 1, .int .i64 2, .int .i64 2, .int .i64 0, .int .i64 0, .int .i64 49, .int .i64 0, .int .i64 0, .string ⟨#[116, 114, 105, 110, 105, 116, 121]⟩, .int .i64 1, .int .i64 2, .int .i64 2, .int .i64 0, .int .i64 0, .int .i64 56, .int .i64 0, .int .i64 0, .string ⟨#[99, 111, 114, 112, 117, 115, 45, 99, 104, 114, 105, 115, 116, 105]⟩, .int .i64 1, .int .i64 2, .int .i64 2, .int .i64 0, .int .i64 0, .int .i64 60, .int .i64 0, .int .i64 0, .string ⟨#[115, 97, 99, 114, 101, 100, 45, 104, 101, 97, 114, 116]⟩, .int .i64 1, .int .i64 2, .int .i64 2, .int .i64 0, .int .i64 0, .int .i64 68, .int .i64 0, .int .i64 0, .string ⟨#[106, 111, 104, 110, 45, 98, 97, 112, 116, 105, 115, 116]⟩, .int .i64 1, .int .i64 1, .int .i64 1, .int .i64 6, .int .i64 24, .int .i64 0, .int .i64 0, .int .i64 0, .string ⟨#[112, 101, 116, 101, 114, 45, 97, 110, 100, 45, 112, 97, 117, 108]⟩, .int .i64 1, .int .i64 1, .int .i64 1, .int .i64 6, .int .i64 29, .int .i64 0, .int .i64 0, .int .i64 0, .string ⟨#[116, 114, 97, 110, 115, 102, 105, 103, 117, 114, 97, 116, 105, 111, 110]⟩, .int .i64 2, .int .i64 3, .int .i64 1, .int .i64 8, .int .i64 6, .int .i64 0, .int .i64 0, .int .i64 0, .string ⟨#[97, 115, 115, 117, 109, 112, 116, 105, 111, 110]⟩, .int .i64 1, .int .i64 2, .int .i64 1, .int .i64 8, .int .i64 15, .int .i64 0, .int .i64 0, .int .i64 0, .string ⟨#[101, 120, 97, 108, 116, 97, 116, 105, 111, 110, 45, 111, 102, 45, 116, 104, 101, 45, 99, 114, 111, 115, 115]⟩, .int .i64 2, .int .i64 3, .int .i64 1, .int .i64 9, .int .i64 14, .int .i64 0, .int .i64 0, .int .i64 0, .string ⟨#[97, 108, 108, 45, 115, 97, 105, 110, 116, 115]⟩, .int .i64 1, .int .i64 2, .int .i64 1, .int .i64 11, .int .i64 1, .int .i64 0, .int .i64 0, .int .i64 0, .string ⟨#[97, 108, 108, 45, 115, 111, 117, 108, 115]⟩, .int .i64 3, .int .i64 3, .int .i64 1, .int .i64 11, .int .i64 2, .int .i64 0, .int .i64 0, .int .i64 0, .string ⟨#[99, 104, 114, 105, 115, 116, 45, 116, 104, 101, 45, 107, 105, 110, 103]⟩, .int .i64 1, .int .i64 3, .int .i64 3, .int .i64 11, .int .i64 20, .int .i64 0, .int .i64 0, .int .i64 1, .string ⟨#[97, 110, 100, 114, 101, 119]⟩, .int .i64 4, .int .i64 2, .int .i64 1, .int .i64 11, .int .i64 30, .int .i64 0, .int .i64 0, .int .i64 0, .string ⟨#[105, 109, 109, 97, 99, 117, 108, 97, 116, 101, 45, 99, 111, 110, 99, 101, 112, 116, 105, 111, 110]⟩, .int .i64 1, .int .i64 1, .int .i64 1, .int .i64 12, .int .i64 8, .int .i64 0, .int .i64 0, .int .i64 0, .string ⟨#[110, 97, 116, 105, 118, 105, 116, 121]⟩, .int .i64 1, .int .i64 2, .int .i64 1, .int .i64 12, .int .i64 25, .int .i64 0, .int .i64 0, .int .i64 0, .string ⟨#[115, 116, 101, 112, 104, 101, 110]⟩, .int .i64 4, .int .i64 2, .int .i64 1, .int .i64 12, .int .i64 26, .int .i64 0, .int .i64 0, .int .i64 0] : Array Value).all (fun x => x.oneCell') = true := by simp [Value.oneCell']
theorem info_189 : (Tryz.prog.info? 189).map (·.size) = some 225 := by kernel_rfl
theorem feasts_ok (w : World) : Calls Tryz.prog 75 #[] w fun e w' => ∃ g, e = .returned (.slice (some ⟨g, 0, none⟩) 25 25) ∧ w.heap.size ≤ g ∧ IsRecs w' (some ⟨g, 0, none⟩) bFeas ∧ Kept w w' := by
  go_enter Tryz.func75, Tryz.ntmps75
  go_wp2_with (first
    | (go_at_call 119; (with_reducible refine (fixed_ok _ _ _).mono ?_); rintro e wn ⟨rfl, hk⟩)
    | (go_at_call 118; (with_reducible refine (pasch_ok _ _).mono ?_); rintro e wn ⟨rfl, hk⟩)
    | (go_at_call 117; (with_reducible refine (after_ok _ _ _ _).mono ?_); rintro e wn ⟨rfl, hk⟩)
    | (refine wpList_store_row rfl 189 _ _ rfl wn.heap.size #[.string ⟨#[109, 97, 114, 121, 45, 109, 111, 116, 104, 101, 114, 45, 111, 102, 45, 103, 111, 100]⟩, .int .i64 1, .int .i64 2, .int .i64 1, .int .i64 1, .int .i64 1, .int .i64 0, .int .i64 0, .int .i64 0, .string ⟨#[101, 112, 105, 112, 104, 97, 110, 121]⟩, .int .i64 1, .int .i64 2, .int .i64 1, .int .i64 1, .int .i64 6, .int .i64 0, .int .i64 0, .int .i64 0, .string ⟨#[98, 97, 112, 116, 105, 115, 109, 45, 111, 102, 45, 116, 104, 101, 45, 108, 111, 114, 100]⟩, .int .i64 2, .int .i64 3, .int .i64 3, .int .i64 1, .int .i64 7, .int .i64 0, .int .i64 0, .int .i64 1, .string ⟨#[99, 111, 110, 118, 101, 114, 115, 105, 111, 110, 45, 111, 102, 45, 112, 97, 117, 108]⟩, .int .i64 4, .int .i64 3, .int .i64 1, .int .i64 1, .int .i64 25, .int .i64 0, .int .i64 0, .int .i64 0, .string ⟨#[112, 114, 101, 115, 101, 110, 116, 97, 116, 105, 111, 110]⟩, .int .i64 2, .int .i64 3, .int .i64 1, .int .i64 2, .int .i64 2, .int .i64 0, .int .i64 0, .int .i64 0, .string ⟨#[99, 104, 97, 105, 114, 45, 111, 102, 45, 112, 101, 116, 101, 114]⟩, .int .i64 4, .int .i64 2, .int .i64 1, .int .i64 2, .int .i64 22, .int .i64 0, .int .i64 0, .int .i64 0, .string ⟨#[106, 111, 115, 101, 112, 104]⟩, .int .i64 1, .int .i64 1, .int .i64 1, .int .i64 3, .int .i64 19, .int .i64 0, .int .i64 0, .int .i64 0, .string ⟨#[97, 110, 110, 117, 110, 99, 105, 97, 116, 105, 111, 110]⟩, .int .i64 1, .int .i64 1, .int .i64 1, .int .i64 3, .int .i64 25, .int .i64 0, .int .i64 0, .int .i64 0, .string ⟨#[97, 115, 99, 101, 110, 115, 105, 111, 110]⟩, .int .i64 1, .int .i64 2, .int .i64 2, .int .i64 0, .int .i64 0, .int .i64 39, .int .i64 0, .int .i64 0, .string ⟨#[112, 101, 110, 116, 101, 99, 111, 115, 116]⟩, .int .i64 1, .int .i64 2, .int .i64 2, .int .i64 0, .int .i64 0, .int .i64 49, .int .i64 0, .int .i64 0, .string ⟨#[116, 114, 105, 110, 105, 116, 121]⟩, .int .i64 1, .int .i64 2, .int .i64 2, .int .i64 0, .int .i64 0, .int .i64 56, .int .i64 0, .int .i64 0, .string ⟨#[99, 111, 114, 112, 117, 115, 45, 99, 104, 114, 105, 115, 116, 105]⟩, .int .i64 1, .int .i64 2, .int .i64 2, .int .i64 0, .int .i64 0, .int .i64 60, .int .i64 0, .int .i64 0, .string ⟨#[115, 97, 99, 114, 101, 100, 45, 104, 101, 97, 114, 116]⟩, .int .i64 1, .int .i64 2, .int .i64 2, .int .i64 0, .int .i64 0, .int .i64 68, .int .i64 0, .int .i64 0, .string ⟨#[106, 111, 104, 110, 45, 98, 97, 112, 116, 105, 115, 116]⟩, .int .i64 1, .int .i64 1, .int .i64 1, .int .i64 6, .int .i64 24, .int .i64 0, .int .i64 0, .int .i64 0, .string ⟨#[112, 101, 116, 101, 114, 45, 97, 110, 100, 45, 112, 97, 117, 108]⟩, .int .i64 1, .int .i64 1, .int .i64 1, .int .i64 6, .int .i64 29, .int .i64 0, .int .i64 0, .int .i64 0, .string ⟨#[116, 114, 97, 110, 115, 102, 105, 103, 117, 114, 97, 116, 105, 111, 110]⟩, .int .i64 2, .int .i64 3, .int .i64 1, .int .i64 8, .int .i64 6, .int .i64 0, .int .i64 0, .int .i64 0, .string ⟨#[97, 115, 115, 117, 109, 112, 116, 105, 111, 110]⟩, .int .i64 1, .int .i64 2, .int .i64 1, .int .i64 8, .int .i64 15, .int .i64 0, .int .i64 0, .int .i64 0, .string ⟨#[101, 120, 97, 108, 116, 97, 116, 105, 111, 110, 45, 111, 102, 45, 116, 104, 101, 45, 99, 114, 111, 115, 115]⟩, .int .i64 2, .int .i64 3, .int .i64 1, .int .i64 9, .int .i64 14, .int .i64 0, .int .i64 0, .int .i64 0, .string ⟨#[97, 108, 108, 45, 115, 97, 105, 110, 116, 115]⟩, .int .i64 1, .int .i64 2, .int .i64 1, .int .i64 11, .int .i64 1, .int .i64 0, .int .i64 0, .int .i64 0, .string ⟨#[97, 108, 108, 45, 115, 111, 117, 108, 115]⟩, .int .i64 3, .int .i64 3, .int .i64 1, .int .i64 11, .int .i64 2, .int .i64 0, .int .i64 0, .int .i64 0, .string ⟨#[99, 104, 114, 105, 115, 116, 45, 116, 104, 101, 45, 107, 105, 110, 103]⟩, .int .i64 1, .int .i64 3, .int .i64 3, .int .i64 11, .int .i64 20, .int .i64 0, .int .i64 0, .int .i64 1, .string ⟨#[97, 110, 100, 114, 101, 119]⟩, .int .i64 4, .int .i64 2, .int .i64 1, .int .i64 11, .int .i64 30, .int .i64 0, .int .i64 0, .int .i64 0, .string ⟨#[105, 109, 109, 97, 99, 117, 108, 97, 116, 101, 45, 99, 111, 110, 99, 101, 112, 116, 105, 111, 110]⟩, .int .i64 1, .int .i64 1, .int .i64 1, .int .i64 12, .int .i64 8, .int .i64 0, .int .i64 0, .int .i64 0, .string ⟨#[110, 97, 116, 105, 118, 105, 116, 121]⟩, .int .i64 1, .int .i64 2, .int .i64 1, .int .i64 12, .int .i64 25, .int .i64 0, .int .i64 0, .int .i64 0, .string ⟨#[115, 116, 101, 112, 104, 101, 110]⟩, .int .i64 4, .int .i64 2, .int .i64 1, .int .i64 12, .int .i64 26, .int .i64 0, .int .i64 0, .int .i64 0] (by kernel_rfl) (by kernel_rfl) _ _ (Blk.new wn _ _) info_189 (by kernel_rfl) one_feas ?_)
    | fail)
  go_ret
  exact ⟨_, rfl, Kept.size (by repeat (first | with_reducible exact Kept.refl _ | with_reducible assumption | with_reducible refine Kept.drew ?_ | with_reducible refine Kept.drewN ?_ _ | with_reducible refine Kept.alloc ?_ _ | (with_reducible refine Kept.setCell ?_ (by first | exact Nat.le_refl _ | omega | (simp; done) | (simp; omega)) _) | (with_reducible refine Kept.trans ?_ (by with_reducible assumption)))), isRecs_blk bFeas (Blk.setRow (Blk.new wn _ _) _) (by kernel_rfl), Kept.setRow (Kept.alloc (by repeat (first | with_reducible exact Kept.refl _ | with_reducible assumption | with_reducible refine Kept.drew ?_ | with_reducible refine Kept.drewN ?_ _ | with_reducible refine Kept.alloc ?_ _ | (with_reducible refine Kept.setCell ?_ (by first | exact Nat.le_refl _ | omega | (simp; done) | (simp; omega)) _) | (with_reducible refine Kept.trans ?_ (by with_reducible assumption)))) _) (Kept.size (by repeat (first | with_reducible exact Kept.refl _ | with_reducible assumption | with_reducible refine Kept.drew ?_ | with_reducible refine Kept.drewN ?_ _ | with_reducible refine Kept.alloc ?_ _ | (with_reducible refine Kept.setCell ?_ (by first | exact Nat.le_refl _ | omega | (simp; done) | (simp; omega)) _) | (with_reducible refine Kept.trans ?_ (by with_reducible assumption))))) _⟩
end Go.Proofs.YtblaphkaklocfaaGreatDoor
/- Contract: builtin.Catalogue. -/
namespace Go.Proofs.YtblaphkaklocfaaGreatDoor
open Go.ChangeShapes Go.WideShapes Go.ChangeAt Go.RowKit
set_option maxHeartbeats 8000000
set_option maxRecDepth 20000

theorem Cat_ok (w : World) :
    Calls Tryz.prog 31 #[] w fun e w' => ∃ o o', e = .returned (.agg #[.int .i64 5, .slice o 8 8, .slice o' 25 25]) ∧ IsRecs w' o bSeas ∧ IsRecs w' o' bFeas ∧ Kept w w' := by
  have KF1 := Lib.hid feasts_ok
  go_enter Tryz.func31, Tryz.ntmps31
  go_wp2_with fail
  obtain ⟨W1, hW1⟩ : ∃ x, x = w.alloc (.cells #[.int .i64 0, .slice none 0 0, .slice none 0 0] 45) := ⟨_, rfl⟩
  rw [← hW1]
  have k1 : Kept w W1 := by rw [hW1]; exact (Kept.refl w).alloc _
  have bR : Hid (Blk W1 w.heap.size #[.int .i64 0, .slice none 0 0, .slice none 0 0] 45) := (show Blk _ _ _ _ from by rw [hW1]; exact Blk.new w _ _)
  have hz1 := bR.out.lt
  clear hW1
  go_at_call 74
  refine (seasons_ok _).mono ?_
  rintro e w2 ⟨g, rfl, hg, hr2, hk2⟩
  have HR2 := Lib.hid hr2
  clear hr2
  go_wp2_with fail
  go_at_call 75
  refine (KF1.out _).mono ?_
  rintro e w3 ⟨g', rfl, hg', hr3, hk3⟩
  have HR3 := Lib.hid hr3
  have HR23 := Lib.hid (HR2.out.kept hk3)
  have bR3 := bR.out.kept (hk2.trans hk3)
  have K3 := Lib.hid ((k1.trans hk2).trans hk3)
  have d0 : w3.cell? ⟨w.heap.size, 0, none⟩ = some (.int .i64 0) := (bR3.cell _).trans rfl
  have d1 : w3.cell? ⟨w.heap.size, 1, none⟩ = some (.slice none 0 0) := (bR3.cell _).trans rfl
  have d2 : w3.cell? ⟨w.heap.size, 2, none⟩ = some (.slice none 0 0) := (bR3.cell _).trans rfl
  have f0 := bR3.free 0
  have f1 := bR3.free 1
  have f2 := bR3.free 2
  have lR := bR3.lt
  have HB3 := Lib.hid bR3
  have hn1 : Hid (g ≠ w.heap.size ∧ g' ≠ w.heap.size) := Lib.hid ⟨by omega, by have := hk2.size; omega⟩
  clear hr3 bR3 hk3 hk2 k1 hg hg' HR2 bR
  go_wp2
  have B1 : Blk (w3.setCell ⟨w.heap.size, 0, none⟩ (.int .i64 5)) w.heap.size #[.int .i64 5, .slice none 0 0, .slice none 0 0] 45 := blk_set HB3.out _ rfl
  have B2 : Blk ((w3.setCell ⟨w.heap.size, 0, none⟩ (.int .i64 5)).setCell ⟨w.heap.size, 1, none⟩ (.slice (some ⟨g, 0, none⟩) 8 8)) w.heap.size #[.int .i64 5, .slice (some ⟨g, 0, none⟩) 8 8, .slice none 0 0] 45 := blk_set B1 _ rfl
  have B3 : Blk (((w3.setCell ⟨w.heap.size, 0, none⟩ (.int .i64 5)).setCell ⟨w.heap.size, 1, none⟩ (.slice (some ⟨g, 0, none⟩) 8 8)).setCell ⟨w.heap.size, 2, none⟩ (.slice (some ⟨g', 0, none⟩) 25 25)) w.heap.size #[.int .i64 5, .slice (some ⟨g, 0, none⟩) 8 8, .slice (some ⟨g', 0, none⟩) 25 25] 45 := blk_set B2 _ rfl
  refine bodyPost_ret (results_cell_row Tryz.results31 _ _ w.heap.size _ #[.int .i64 5, .slice (some ⟨g, 0, none⟩) 8 8, .slice (some ⟨g', 0, none⟩) 25 25] _ _ rfl B3 Tryz.underlying45 rfl (by kernel_rfl)) rfl ?_
  exact ⟨_, _, rfl, recs_set (recs_set (recs_set HR23.out hn1.out.1 _) hn1.out.1 _) hn1.out.1 _, recs_set (recs_set (recs_set HR3.out hn1.out.2 _) hn1.out.2 _) hn1.out.2 _, Kept.setCell (Kept.setCell (Kept.setCell K3.out (Nat.le_refl _) _) (Nat.le_refl _) _) (Nat.le_refl _) _⟩
end Go.Proofs.YtblaphkaklocfaaGreatDoor

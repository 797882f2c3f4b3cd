/- Contracts and plain lemmas: Lst, Ls2. -/
import Derived.Test.YtblaphkaklocfaaGreatDoorG12
import Derived.Test.YtblaphkaklocfaaGreatDoorG14
import Derived.RangeFuncBound
import Derived.RangeFuncCalls
import Derived.RangeFuncMany
import Derived.Shelf.Abstract
import Derived.Shelf.RegionOpen
import Derived.WalkKit
import Derived.OwnWalkIn
import Derived.TacticsInMore
import Derived.LoopNIn
import Derived.LoopIn
import Derived.Outline
set_option linter.unusedSimpArgs false
set_option linter.unusedVariables false
set_option linter.unusedSectionVars false
/- Contracts: slices.Backward at starts; season.last. -/
namespace Go.Proofs.YtblaphkaklocfaaGreatDoor
open Go.ChangeShapes Go.WideShapes Go.ChangeAt Go.RowKit Go.Shelf
set_option maxHeartbeats 2000000
attribute [local go_sem] Oper.semAt_some

theorem holds_ok (x : Int × Int) (bd : Nat) (day : Int) (W : World) (hd : W.cell? ⟨bd, 0, none⟩ = some (.int .i64 day)) :
    Calls Tryz.prog 257 #[.agg #[.int .i64 x.1, .int .i64 x.2], .pointer (some ⟨bd, 0, none⟩)] W fun e w' => e = .returned (.bool (decide (x.1 ≤ day))) ∧ Kept W w' := by
  obtain ⟨x1, x2⟩ := x
  dsimp only
  have hlt := lt_cellL hd
  go_enter Tryz.func257, Tryz.ntmps257
  go_wp2
  go_ret
  exact ⟨rfl, (by repeat (first | with_reducible exact Kept.refl _ | with_reducible assumption | with_reducible refine Kept.drew ?_ | with_reducible refine Kept.drewN ?_ _ | with_reducible refine Kept.alloc ?_ _ | (with_reducible refine Kept.setCell ?_ (by first | exact Nat.le_refl _ | omega | (simp; done) | (simp; omega)) _) | (with_reducible refine Kept.trans ?_ (by with_reducible assumption))))⟩
/-- What the iterator hands out in its k-th round. -/
def backF (P : List (Int × Int)) (k : Nat) : Int × (Int × Int) := ((P.length : Int) - 1 - k, P[k]!)
def uptoB (P : List (Int × Int)) (k : Nat) : List (Int × (Int × Int)) := (List.range k).map (backF P)
theorem uptoB_succ (P : List (Int × Int)) (k : Nat) : uptoB P (k + 1) = uptoB P k ++ [backF P k] := by simp [uptoB, List.range_succ]
theorem uptoB_length (P : List (Int × Int)) (k : Nat) : (uptoB P k).length = k := by simp [uptoB]
abbrev encB (x : Int × (Int × Int)) : Array Value := #[.int .i64 x.1, .agg #[.int .i64 x.2.1, .int .i64 x.2.2]]
/-- The sorted starts lie from the block's begin on, the last of them first in P. -/
def IsBack (w : World) (g : Nat) (P : List (Int × Int)) : Prop := ∀ k, k < P.length → w.cell? ⟨g, (P.length - 1 - k) * 2, none⟩ = some (.int .i64 (P[k]!).1) ∧ w.cell? ⟨g, (P.length - 1 - k) * 2 + 1, none⟩ = some (.int .i64 (P[k]!).2)
theorem IsBack.below {B : Nat} {w w' : World} {g : Nat} {P : List (Int × Int)} (h : IsBack w g P) (k : Below B w w') (hg : g < B) : IsBack w' g P := fun j hj =>
  ⟨(k.cell (p := ⟨g, _, none⟩) hg).trans (h j hj).1, (k.cell (p := ⟨g, _, none⟩) hg).trans (h j hj).2⟩
set_option maxRecDepth 100000 in
theorem back_stops (F : Fence) (n : Nat) (h5 : F.fn 286) (hro : F.round = none) (hn : 1 ≤ n) (Bs n₀ g cap : Nat) (P : List (Int × Int)) (hP : P.length ≤ 1000) (w : World) (hBs : Bs < w.heap.size) (hn₀ : n₀ ≤ w.heap.size) (hg : g < n₀)
    (hc : w.cell? ⟨Bs, 0, none⟩ = some (.slice (some ⟨g, 0, none⟩) P.length cap)) (hI : IsBack w g P) (hB2 : Bs < n₀) :
    SeqStopsK F n Tryz.prog 286 #[.pointer (some ⟨Bs, 0, none⟩)] encB (Below n₀) (fun xs => xs = uptoB P P.length) (fun pre => ∃ k, k ≤ P.length ∧ pre = uptoB P k) P.length w := fun l J Jx W hW _ _ hY h0 => by
  have hcW := (hW.cell (p := ⟨Bs, 0, none⟩) hBs).trans hc
  have HI := Lib.hid (hI.below hW (by omega))
  refine callsIn_of_wp Tryz.func286 rfl h5 ?_ hro
  simp only [Tryz.ntmps286, List.size_toArray, List.length_cons, List.length_nil, Nat.reduceAdd, Nat.reduceSub, Array.replicate_succ, Array.replicate_zero, List.push_toArray, List.append_toArray, List.nil_append, List.cons_append]
  clear hI hW hc
  gi_wp2
  gi_loopw [3] (fun i wr => ∃ k : Nat, k ≤ P.length ∧ i = .int .i64 ((P.length : Int) - 1 - k) ∧ J (uptoB P k) wr ∧ Below n₀ W wr) (fun i _ => (intOf i + 1).toNat)
  case atStart => exact ⟨0, Nat.zero_le _, by simp, h0, Below.refl _ _⟩
  case round =>
    obtain ⟨k, hk, rfl, hJs, hnx⟩ := hrel
    by_cases hlt : k < P.length
    · obtain ⟨f1, t1, a1, b1, hy, hR⟩ := hY _ (backF P k) wr hJs (by rw [uptoB_length]; exact hlt)
      have hcr := (hnx.cell (p := ⟨Bs, 0, none⟩) hB2).trans hcW
      obtain ⟨e1, e2⟩ := (HI.out.below hnx hg) k hlt
      obtain ⟨m, hm⟩ : ∃ m : Nat, P.length = m + 1 + k := ⟨P.length - 1 - k, by omega⟩
      have hi : (P.length : Int) - 1 - k = (m : Int) := by omega
      have hn2 : P.length - 1 - k = m := by omega
      have HS := Lib.hid (uptoB_succ P k)
      unfold encB backF at hy
      rw [hn2] at e1 e2
      dsimp only at hy
      rw [hi] at hy ⊢
      generalize P[k]! = x at *
      obtain ⟨x1, x2⟩ := x
      dsimp only at e1 e2 hy
      have hml : (m : Int) < (P.length : Int) := by omega
      have hm0 : (0 : Int) ≤ (m : Int) := by omega
      have HM := Lib.hid hm
      clear hm hi hn2
      gi_wp2
      refine hR.mono ?_
      rintro e W3 (⟨rfl, hJ3, hk3⟩ | ⟨rfl, hJx3⟩)
      · gi_wp2
        go_roundw
        case rel => exact ⟨k + 1, by omega, by have := HM.out; congr 1; omega, by rw [HS.out]; exact hJ3, hnx.trans hk3⟩
        case measure => simp [intOf]
      · gi_wp2
        refine bodyPost_ret (results_none rfl _ _ _) rfl ?_
        exact ⟨⟨_, rfl⟩, .inr ⟨_, ⟨k + 1, by omega, HS.out.symm⟩, hJx3⟩⟩
    · obtain rfl : k = P.length := by omega
      have hi : (P.length : Int) - 1 - (P.length : Nat) = -1 := by omega
      rw [hi]
      gi_wp2
      go_end0
      exact ⟨⟨_, rfl⟩, .inl ⟨_, rfl, hJs⟩⟩
theorem backV (o : Option Addr) (n c : Nat) (w : World) : Calls Tryz.prog 275 #[.slice o n c] w fun e w' =>
    e = .returned (.func (.func 286) #[] #[.pointer (some ⟨w.heap.size, 0, none⟩)]) ∧ w' = w.alloc (.cells #[.slice o n c] 299) := by
  go_enter Tryz.func275, Tryz.ntmps275
  go_wp2
  go_ret
  exact ⟨rfl, rfl⟩
end Go.Proofs.YtblaphkaklocfaaGreatDoor
/- Contract: season.last. -/
namespace Go.Proofs.YtblaphkaklocfaaGreatDoor
open Go.ChangeShapes Go.WideShapes Go.ChangeAt Go.RowKit Go.Shelf
set_option maxHeartbeats 4000000
attribute [local go_sem] Oper.semAt_some

theorem uptoB_snd (P : List (Int × Int)) (k : Nat) (h : k ≤ P.length) : (uptoB P k).map (·.2) = P.take k := by
  unfold uptoB
  rw [List.map_map]
  apply List.ext_getElem
  · simp; omega
  · intro i h1 h2
    have : i < P.length := by simp at h1; omega
    simp [backF, this]
def missB (day : Int) (pre : List (Int × (Int × Int))) : Prop := ∀ x ∈ pre, ¬ x.2.1 ≤ day
def hitB (day : Int) (pre : List (Int × (Int × Int))) : Prop := ∃ pre' x, pre = pre' ++ [x] ∧ missB day pre' ∧ x.2.1 ≤ day
def lastC (pre : List (Int × (Int × Int))) : Array Value := match pre.getLast? with
  | some x => #[.int .i64 x.2.1, .int .i64 x.2.2]
  | none => #[.int .i64 0, .int .i64 0]
theorem lastC_snoc (pre : List (Int × (Int × Int))) (x : Int × (Int × Int)) : lastC (pre ++ [x]) = #[.int .i64 x.2.1, .int .i64 x.2.2] := by simp [lastC]
theorem find_miss (P : List (Int × Int)) (day : Int) (h : missB day (uptoB P P.length)) : P.find? (fun a => decide (a.1 ≤ day)) = none := by
  rw [List.find?_eq_none]
  intro a ha
  have h2 := uptoB_snd P P.length (Nat.le_refl _)
  rw [List.take_length] at h2
  rw [← h2] at ha
  obtain ⟨x, hx, rfl⟩ := List.mem_map.1 ha
  simpa using h x hx
theorem find_hit (P : List (Int × Int)) (day : Int) (k : Nat) (hk : k ≤ P.length) (pre' : List (Int × (Int × Int))) (x : Int × (Int × Int)) (e : uptoB P k = pre' ++ [x]) (hm : missB day pre') (hx : x.2.1 ≤ day) : P.find? (fun a => decide (a.1 ≤ day)) = some x.2 := by
  have h2 := uptoB_snd P k hk
  rw [e, List.map_append] at h2
  rw [← List.take_append_drop k P, ← h2, List.find?_append, List.find?_append]
  have : (pre'.map (·.2)).find? (fun a => decide (a.1 ≤ day)) = none := by
    rw [List.find?_eq_none]
    intro a ha
    obtain ⟨y, hy, rfl⟩ := List.mem_map.1 ha
    simpa using hm y hy
  rw [this]
  simp [hx]
theorem kept_oth {W W1 : World} (k : Kept W W1) : KeepsOthers W W1 :=
  ⟨k.size, fun i o hi _ => (k.block i (Array.getElem?_eq_some_iff.1 hi).1).trans hi⟩
set_option maxRecDepth 100000 in
set_option maxHeartbeats 8000000 in
theorem last_ok (g cap bd : Nat) (P : List (Int × Int)) (day : Int) (w : World) (hP : P.length ≤ 1000) (hI : IsBack w g P) (hgl : g < w.heap.size) (hd : w.cell? ⟨bd, 0, none⟩ = some (.int .i64 day)) :
    Calls Tryz.prog 256 #[.slice (some ⟨g, 0, none⟩) P.length cap, .func (.func 257) #[] #[.pointer (some ⟨bd, 0, none⟩)]] w fun e w' =>
      (∃ v b, e = .returned (.tuple #[.agg #[.int .i64 v.1, .int .i64 v.2], .bool b]) ∧ ((b = true ∧ P.find? (fun a => decide (a.1 ≤ day)) = some v) ∨ (b = false ∧ P.find? (fun a => decide (a.1 ≤ day)) = none))) ∧ Kept w w' := by
  refine (callsIn_wide (n := 6)).1 ?_
  have hbd := lt_cellL hd
  have KH := Lib.hid (fun x W (hk : Below w.heap.size w W) => holds_ok x bd day W ((hk.cell (p := ⟨bd, 0, none⟩) hbd).trans hd))
  refine callsIn_of_wp_marks Tryz.func256 rfl trivial ?_ rfl
  simp only [Tryz.ntmps256, List.size_toArray, List.length_cons, List.length_nil, Nat.reduceAdd, Nat.reduceSub, Array.replicate_succ, Array.replicate_zero, List.push_toArray, List.append_toArray, List.nil_append, List.cons_append]
  generalize hcl : Value.func (.func 257) #[] #[.pointer (some ⟨bd, 0, none⟩)] = cl at *
  gi_wp2_with (refine ⟨trivial, ?_⟩; gi_at_call 275; refine (callsIn_wide.2 (backV _ _ _ _)).mono ?_; rintro e w' ⟨rfl, rfl⟩)
  have b3 := (((Blk.new w #[cl] 304).alloc (.cells #[.int .i64 0, .int .i64 0] 255)).alloc (.cells #[.bool false] 4)).alloc (.cells #[.slice (some ⟨g, 0, none⟩) P.length cap] 299)
  have b4 := ((Blk.new (w.alloc (.cells #[cl] 304)) #[.int .i64 0, .int .i64 0] 255).alloc (.cells #[.bool false] 4)).alloc (.cells #[.slice (some ⟨g, 0, none⟩) P.length cap] 299)
  have b5 := (Blk.new ((w.alloc (.cells #[cl] 304)).alloc (.cells #[.int .i64 0, .int .i64 0] 255)) #[.bool false] 4).alloc (.cells #[.slice (some ⟨g, 0, none⟩) P.length cap] 299)
  have b6 := Blk.new (((w.alloc (.cells #[cl] 304)).alloc (.cells #[.int .i64 0, .int .i64 0] 255)).alloc (.cells #[.bool false] 4)) #[.slice (some ⟨g, 0, none⟩) P.length cap] 299
  simp only [World.size_alloc] at b3 b4 b5 b6
  have hB0 : Below w.heap.size w ((((w.alloc (.cells #[cl] 304)).alloc (.cells #[.int .i64 0, .int .i64 0] 255)).alloc (.cells #[.bool false] 4)).alloc (.cells #[.slice (some ⟨g, 0, none⟩) P.length cap] 299)) := ((((Below.refl _ w).alloc (Nat.le_refl _) _).alloc (by simp) _).alloc (by simp; omega) _).alloc (by simp; omega) _
  have hsz : ((((w.alloc (.cells #[cl] 304)).alloc (.cells #[.int .i64 0, .int .i64 0] 255)).alloc (.cells #[.bool false] 4)).alloc (.cells #[.slice (some ⟨g, 0, none⟩) P.length cap] 299)).heap.size = w.heap.size + 4 := by simp
  obtain ⟨W0, hW0⟩ : ∃ W0, (((w.alloc (.cells #[cl] 304)).alloc (.cells #[.int .i64 0, .int .i64 0] 255)).alloc (.cells #[.bool false] 4)).alloc (.cells #[.slice (some ⟨g, 0, none⟩) P.length cap] 299) = W0 := ⟨_, rfl⟩
  rw [hW0] at b3 b4 b5 b6 hB0 hsz ⊢
  clear hW0
  refine wpIn_rangeFunc_ownH (F := Fence.wide) (n := 6) rfl (by omega) (gf := 286) (lb := #[.pointer (some ⟨w.heap.size + 1 + 1 + 1, 0, none⟩)]) rfl trivial (enters_of Tryz.func286 (by kernel_rfl) rfl)
    (back_stops Fence.wide (6 - 1) trivial rfl (by omega) (w.heap.size + 1 + 1 + 1) W0.heap.size g cap P hP W0 (by omega) (Nat.le_refl _) (by omega) (by rw [b6.cell]; rfl) (hI.below hB0 hgl) (by omega)) belowK_t (belowK_b (by omega)) (Below.refl _ _) (fun _ => rfl)
    (fun pre W => missB day pre ∧ Below W0.heap.size W0 W)
    (fun c pre W => (((c = .ret ∧ hitB day pre) ∧ Blk W (w.heap.size + 1) (lastC pre) 255) ∧ Blk W (w.heap.size + 1 + 1) #[.bool true] 4) ∧ Below w.heap.size w W)
    (OwnFrom.and (ownFrom_pure _ _) (ownFrom_below (Nat.le_refl _) (Nat.le_refl _)))
    (fun c => OwnFrom.and (OwnFrom.and (OwnFrom.and (ownFrom_pure _ _) (Own.from (blk_own _ _ lastC) _)) (Own.from (blk_own _ _ (fun _ => #[.bool true])) _)) (ownFrom_below (Nat.le_refl _) (by omega)))
    ⟨fun _ h => by simp at h, Below.refl _ _⟩
    (fun x a' W => ∃ Bx, w.heap.size + 1 + 1 + 1 < Bx ∧ Blk W Bx #[.int .i64 x.2.1, .int .i64 x.2.2] 255 ∧ a' = { tmps := #[.slice (some ⟨g, 0, none⟩) P.length cap, cl, undef, .pointer (some ⟨w.heap.size, 0, none⟩), .pointer (some ⟨w.heap.size + 1, 0, none⟩), .pointer (some ⟨w.heap.size + 1 + 1, 0, none⟩), undef, .pointer (some ⟨Bx, 0, none⟩), undef, .slice (some ⟨g, 0, none⟩) P.length cap, .func (.func 286) #[] #[.pointer (some ⟨w.heap.size + 1 + 1 + 1, 0, none⟩)], .int .i64 x.1, .agg #[.int .i64 x.2.1, .int .i64 x.2.2], undef, undef, undef, undef, undef], defers := [] })
    (fun x a' _ X Y row hs hg hr => by obtain ⟨Bx, e1, e2, e3⟩ := hs; exact ⟨Bx, e1, blk_own Bx 255 (fun (_ : Unit) => #[Value.int .i64 x.2.1, Value.int .i64 x.2.2]) () X Y row e2 hg (fun r e => (hr r e).2), e3⟩)
    ?assign ?body ?done ?stop
  case assign =>
    rintro l pre x W K ⟨hp, hB⟩ hK
    have hs := hB.size
    have hl5 : w.heap.size + 1 + 1 < W.heap.size := by omega
    gi_wp2
    exact hK _ _ ((KeepsOthers.alloc _ _).from _) ((Below.refl _ W).alloc hs _) ⟨hp, hB.alloc hs _⟩ ⟨W.heap.size, by omega, Blk.new W _ _, rfl⟩
  case body =>
    rintro l pre x a' W hl ⟨r, hr⟩ ⟨hp, hB⟩ ⟨Bx, hBx, bX, rfl⟩ hlt
    have hs := hB.size
    have q3 : W.cell? ⟨w.heap.size, 0, none⟩ = some cl := by rw [(b3.below hB (by omega)).cell]; rfl
    have x0 : W.cell? ⟨Bx, 0, none⟩ = some (.int .i64 x.2.1) := by rw [bX.cell]; rfl
    have x1 : W.cell? ⟨Bx, 1, none⟩ = some (.int .i64 x.2.2) := by rw [bX.cell]; rfl
    have KX := Lib.hid (KH.out x.2 W (hB0.trans (hB.mono (by omega))))
    obtain ⟨xi, xd, xj⟩ := x
    dsimp only at x0 x1 KX ⊢
    subst hcl
    cases hb : decide (xd ≤ day) with
    | true =>
      have HL := Lib.hid (of_decide_eq_true hb)
      rw [hb] at KX
      clear hb
      gi_wp2_with fail
      refine ⟨trivial, ?_⟩
      gi_at_call 257
      refine (CallsIn.inRound l (callsIn_wide.2 KX.out)).mono ?_
      rintro e W1 ⟨rfl, hk1⟩
      have d4 := (b4.below hB (by omega)).kept hk1
      have d5 := (b5.below hB (by omega)).kept hk1
      have dX := bX.kept hk1
      have y0 : W1.cell? ⟨Bx, 0, none⟩ = some (.int .i64 xd) := by rw [dX.cell]; rfl
      have y1 : W1.cell? ⟨Bx, 1, none⟩ = some (.int .i64 xj) := by rw [dX.cell]; rfl
      have z0 : W1.cell? ⟨w.heap.size + 1, 0, none⟩ = some (.int .i64 0) := by rw [d4.cell]; rfl
      have z1 : W1.cell? ⟨w.heap.size + 1, 1, none⟩ = some (.int .i64 0) := by rw [d4.cell]; rfl
      have z2 : W1.cell? ⟨w.heap.size + 1 + 1, 0, none⟩ = some (.bool false) := by rw [d5.cell]; rfl
      have f0 := d4.free 0
      have f1 := d4.free 1
      have f2 := d5.free 0
      have hBw : Below w.heap.size w W1 := (hB0.trans (hB.mono (by omega))).trans (Below.mono hk1 (by omega))
      have HP := Lib.hid hp
      have HK := Lib.hid hk1
      clear x0 x1 q3 KX hp hk1
      gi_wp2
      refine ⟨(((kept_oth HK.out).trans (KeepsOthers.setCell _ _ _)).trans ((KeepsOthers.setCell _ _ _).trans (KeepsOthers.setCell _ _ _))).from _, ⟨⟨⟨rfl, pre, _, rfl, HP.out, HL.out⟩, ?_⟩, ?_⟩, ?_⟩
      · rw [lastC_snoc]
        exact (((d4.set 0 _).set 1 _).other (by omega) _ _)
      · exact (((d5.other (by omega) _ _).other (by omega) _ _).set 0 _)
      · exact ((hBw.setCell (by dsimp only; omega) _).setCell (by dsimp only; omega) _).setCell (by dsimp only; omega) _
    | false =>
      have HL := Lib.hid (of_decide_eq_false hb)
      rw [hb] at KX
      clear hb
      gi_wp2_with fail
      refine ⟨trivial, ?_⟩
      gi_at_call 257
      refine (CallsIn.inRound l (callsIn_wide.2 KX.out)).mono ?_
      rintro e W1 ⟨rfl, hk1⟩
      gi_wp2
      exact ⟨(kept_oth hk1).from _, Below.mono hk1 hs, fun z hz => (List.mem_append.1 hz).elim (hp z) (fun e => by simp at e; subst e; exact Int.not_le.2 HL.out), hB.trans (Below.mono hk1 hs)⟩
  case done =>
    rintro D xs W hD rfl ⟨hp, hB⟩ hK
    have d4 := b4.below hB (by omega)
    have d5 := b5.below hB (by omega)
    have hs := hB.size
    have hBw : Below w.heap.size w W := hB0.trans (hB.mono (by omega))
    have z0 : W.cell? ⟨w.heap.size + 1, 0, none⟩ = some (.int .i64 0) := by rw [d4.cell]; rfl
    have z1 : W.cell? ⟨w.heap.size + 1, 1, none⟩ = some (.int .i64 0) := by rw [d4.cell]; rfl
    have z2 : W.cell? ⟨w.heap.size + 1 + 1, 0, none⟩ = some (.bool false) := by rw [d5.cell]; rfl
    have f0 := d4.free 0
    have f1 := d4.free 1
    have f2 := d5.free 0
    have HF := Lib.hid (find_miss P day hp)
    have l4 := d4.lt
    have l5 := d5.lt
    have HK := Lib.hid hK
    clear hp hK
    gi_wp2
    have hK1 := (((KeepsOthers.setCell W ⟨w.heap.size + 1, 0, none⟩ (.int .i64 0)).trans (KeepsOthers.setCell _ ⟨w.heap.size + 1, 1, none⟩ (.int .i64 0))).trans (KeepsOthers.setCell _ ⟨w.heap.size + 1 + 1, 0, none⟩ (.bool false))).same D _ HK.out rfl
    have e4 := ((d4.set 0 (.int .i64 0)).set 1 (.int .i64 0)).other (b' := w.heap.size + 1 + 1) (by omega) 0 (.bool false)
    have e5 := ((d5.other (b' := w.heap.size + 1) (by omega) 0 (.int .i64 0)).other (b' := w.heap.size + 1) (by omega) 1 (.int .i64 0)).set 0 (.bool false)
    have eB := ((hBw.setCell (p := ⟨w.heap.size + 1, 0, none⟩) (by simp) (.int .i64 0)).setCell (p := ⟨w.heap.size + 1, 1, none⟩) (by simp) (.int .i64 0)).setCell (p := ⟨w.heap.size + 1 + 1, 0, none⟩) (by simp; omega) (.bool false)
    have hz := eB.size
    generalize ((W.setCell ⟨w.heap.size + 1, 0, none⟩ (.int .i64 0)).setCell ⟨w.heap.size + 1, 1, none⟩ (.int .i64 0)).setCell ⟨w.heap.size + 1 + 1, 0, none⟩ (.bool false) = W2 at *
    have hK' : (W2.alloc (.cells #[.int .i64 0, .int .i64 0] 255)).heap[D]? = some (.deferred (some [])) := (Below.heap_alloc W2 _ D (Array.getElem?_eq_some_iff.1 hK1).1).trans hK1
    have g4 := blk_putObj (e4.alloc (.cells #[.int .i64 0, .int .i64 0] 255)) _ (.deferred none) hK' rfl
    have g5 := blk_putObj (e5.alloc (.cells #[.int .i64 0, .int .i64 0] 255)) _ (.deferred none) hK' rfl
    refine ⟨by simp, .inl ⟨_, _, rfl, run_takeDeferred hK', ?_⟩⟩
    have c0 := g4.cell 0
    have c1 := g4.cell 1
    have c2 := g5.cell 0
    refine ⟨.tuple #[.agg #[.int .i64 0, .int .i64 0], .bool false], ?_, ⟨(0, 0), false, rfl, .inr ⟨rfl, HF.out⟩⟩, (eB.alloc hz _).trans (belowK_b (w := w) (Nat.le_refl _) _ D _ _ (by omega) hK' rfl rfl)⟩
    simp [results, Tryz.results256, go_sem, c0, c1, c2]
  case stop =>
    rintro D c pre W hD ⟨k, hk, hpre⟩ ⟨⟨⟨⟨rfl, hh⟩, c4⟩, c5⟩, hB⟩ hK
    obtain ⟨pre', x, rfl, hm, hx⟩ := hh
    have HF := Lib.hid (find_hit P day k hk pre' x hpre.symm hm hx)
    rw [lastC_snoc] at c4
    gi_wp2
    refine ⟨by simp, .inl ⟨_, _, rfl, run_takeDeferred hK, ?_⟩⟩
    have g4 := blk_putObj c4 _ (.deferred none) hK rfl
    have g5 := blk_putObj c5 _ (.deferred none) hK rfl
    have c0 := g4.cell 0
    have c1 := g4.cell 1
    have c2 := g5.cell 0
    refine ⟨.tuple #[.agg #[.int .i64 x.2.1, .int .i64 x.2.2], .bool true], ?_, ⟨x.2, true, rfl, .inl ⟨rfl, HF.out⟩⟩, hB.trans (belowK_b (w := w) (Nat.le_refl _) _ D _ _ (by omega) hK rfl rfl)⟩
    simp [results, Tryz.results256, go_sem, c0, c1, c2]
end Go.Proofs.YtblaphkaklocfaaGreatDoor

/- Contracts and plain lemmas: Prs3, Prs4. -/
import Derived.Test.YtblaphkaklocfaaGreatDoorG10
import Derived.Test.YtblaphkaklocfaaGreatDoorG27
import Derived.Deep.RegionHeld3
import Derived.Deep.DeepCutAuto
import Derived.Outline
set_option linter.unusedSimpArgs false
set_option linter.unusedVariables false
set_option linter.unusedSectionVars false
/- Contract: cattext's catalogue at a closed text. -/
namespace Go.Proofs.YtblaphkaklocfaaGreatDoor
open Go.ChangeShapes Go.WideShapes Go.ChangeAt Go.RowKit
set_option maxHeartbeats 8000000
set_option maxRecDepth 20000

/-- "catalogue\nfree 5\nseason s 3 8 fixed 1 1\nend\n" -/
def T0 : ByteArray := ⟨#[99, 97, 116, 97, 108, 111, 103, 117, 101, 10, 102, 114, 101, 101, 32, 53, 10, 115, 101, 97, 115, 111, 110, 32, 115, 32, 51, 32, 56, 32, 102, 105, 120, 101, 100, 32, 49, 32, 49, 10, 101, 110, 100, 10]⟩
instance (l : List ByteArray) (s : ByteArray) (k i : Nat) : Decidable (Comes1 l s k i) :=
  decidable_of_iff (i < l.length ∧ 1 ≤ l[i]!.size ∧ k + l[i]!.size ≤ s.size ∧ s.extract k (k + l[i]!.size) = l[i]! ∧ ∀ j, j < l.length → ∀ m, m < l[i]!.size + 1 → l[j]! = l[i]!.extract 0 m → j = i ∧ m = l[i]!.size)
    ⟨fun h => ⟨h.1, h.2.1, h.2.2.1, h.2.2.2.1, fun j hj m hm => h.2.2.2.2 j hj m (by omega)⟩, fun h => ⟨h.hi, h.h1, h.hs, h.he, fun j hj m hm => h.hp j hj m (by omega)⟩⟩
instance (s : ByteArray) (k m : Nat) : Decidable (NumAt s k m) :=
  decidable_of_iff (1 ≤ m ∧ m ≤ 10 ∧ hit s k leaP = true ∧ (∀ j, j < m → 1 ≤ j → hit s (k + j) digP = true) ∧ (m = 10 ∨ hit s (k + m) digP = false))
    ⟨fun h => ⟨h.1, h.2.1, h.2.2.1, fun j h1 h2 => h.2.2.2.1 j h2 h1, h.2.2.2.2⟩, fun h => ⟨h.h1, h.h2, h.hl, fun j h2 h1 => h.hd j h1 h2, h.he⟩⟩
instance (s : ByteArray) (k m : Nat) : Decidable (IdAt s k m) :=
  decidable_of_iff (1 ≤ m ∧ m ≤ 40 ∧ hit s k letP = true ∧ (∀ j, j < m → 1 ≤ j → hit s (k + j) parP = true) ∧ (m = 40 ∨ (hit s (k + m) parP = false ∧ hit s (k + m) (fun c => decide (c = 45)) = false)) ∧ k + m ≤ s.size)
    ⟨fun h => ⟨h.1, h.2.1, h.2.2.1, fun j h1 h2 => h.2.2.2.1 j h2 h1, h.2.2.2.2.1, h.2.2.2.2.2⟩, fun h => ⟨h.h1, h.h2, h.hl, fun j h2 h1 => h.hd j h1 h2, h.he, h.hs⟩⟩
theorem t_head : Comes1 [⟨#[99, 97, 116, 97, 108, 111, 103, 117, 101, 10, 102, 114, 101, 101]⟩] T0 0 0 := by decide +kernel
theorem t_14 : Comes1 [⟨#[32]⟩] T0 14 0 := by decide +kernel
theorem t_15 : NumAt T0 15 1 := by decide +kernel
theorem t_16 : Comes1 [⟨#[10]⟩] T0 16 0 := by decide +kernel
theorem t_17 : Comes1 [(⟨#[101, 110, 100]⟩ : ByteArray), ⟨#[102, 101, 97, 115, 116]⟩, ⟨#[115, 101, 97, 115, 111, 110]⟩] T0 17 2 := by decide +kernel
theorem t_23 : Comes1 [⟨#[32]⟩] T0 23 0 := by decide +kernel
theorem t_24 : IdAt T0 24 1 := by decide +kernel
theorem t_25 : Comes1 [⟨#[32]⟩] T0 25 0 := by decide +kernel
theorem t_26 : NumAt T0 26 1 := by decide +kernel
theorem t_27 : Comes1 [⟨#[32]⟩] T0 27 0 := by decide +kernel
theorem t_28 : NumAt T0 28 1 := by decide +kernel
theorem t_29 : Comes1 [⟨#[32]⟩] T0 29 0 := by decide +kernel
theorem t_30 : Comes1 [(⟨#[102, 105, 120, 101, 100]⟩ : ByteArray), ⟨#[101, 97, 115, 116, 101, 114]⟩, ⟨#[110, 116, 104]⟩] T0 30 0 := by decide +kernel
theorem t_35 : Comes1 [⟨#[32]⟩] T0 35 0 := by decide +kernel
theorem t_36 : NumAt T0 36 1 := by decide +kernel
theorem t_37 : Comes1 [⟨#[32]⟩] T0 37 0 := by decide +kernel
theorem t_38 : NumAt T0 38 1 := by decide +kernel
theorem t_39 : Comes1 [⟨#[10]⟩] T0 39 0 := by decide +kernel
theorem t_40 : Comes1 [(⟨#[101, 110, 100]⟩ : ByteArray), ⟨#[102, 101, 97, 115, 116]⟩, ⟨#[115, 101, 97, 115, 111, 110]⟩] T0 40 0 := by decide +kernel
theorem t_43 : Comes1 [⟨#[10]⟩] T0 43 0 := by decide +kernel
theorem t_size : T0.size = 44 := by decide +kernel
theorem v_15 : numV T0 15 1 = 5 := by decide +kernel
theorem v_26 : numV T0 26 1 = 3 := by decide +kernel
theorem v_28 : numV T0 28 1 = 8 := by decide +kernel
theorem v_36 : numV T0 36 1 = 1 := by decide +kernel
theorem v_38 : numV T0 38 1 = 1 := by decide +kernel
theorem v_24 : T0.extract 24 25 = ⟨#[115]⟩ := by decide +kernel
theorem new_cell0 (w : World) (v : Value) (t : TypeId) (n : Nat) (hn : n = w.heap.size) : (w.alloc (.cells #[v] t)).cell? ⟨n, 0, none⟩ = some v := by
  subst hn
  exact ((Blk.new w #[v] t).cell 0).trans rfl
theorem grown_cells {a b : World} {S : Nat} (h : a.grownBy b (some S)) : (∀ n o, n < a.heap.size → ¬ n = S → b.cell? ⟨n, o, none⟩ = a.cell? ⟨n, o, none⟩) ∧ (∀ n o, n < a.heap.size → ¬ n = S → b.frozen? ⟨n, o, none⟩ = a.frozen? ⟨n, o, none⟩) :=
  ⟨fun n o hn hne => cell_of_block (h.block n hn (fun e => hne (Option.some.inj e))) o, fun n o hn hne => by
    have := h.block n hn (fun e => hne (Option.some.inj e))
    simp [World.frozen?, this]⟩
theorem Moved.cell {B : List Nat} {a b : World} (h : Moved B a b) {k : Nat} (hk : k < a.heap.size) (hn : k ∉ B) (o : Nat) : b.cell? ⟨k, o, none⟩ = a.cell? ⟨k, o, none⟩ := cell_of_block (h.block k hk hn) o
theorem Moved.alloc {B : List Nat} {a b : World} (h : Moved B a b) (o : Obj) : Moved B a (b.alloc o) := h.trans (((Kept.refl b).alloc o).moved B)
theorem Moved.setNew {B : List Nat} {a b : World} (h : Moved B a b) {n : Nat} (hn : a.heap.size ≤ n) (o : Nat) (u : Value) : Moved B a (b.setCell ⟨n, o, none⟩ u) :=
  ⟨h.os, h.tape, h.output, by simpa using h.size, fun k hk hni => (Below.heap_setCell b _ u k (show k ≠ n by omega)).trans (h.block k hk hni)⟩
/-- What catalogue has come to. -/
structure CS (w0 : World) (S n0 n1 k : Nat) (cs : Array Value) (w : World) : Prop where
  hS : Scn w S T0 k
  h0 : Blk w n0 #[.pointer (some ⟨S, 0, none⟩)] 144
  h1 : Blk w n1 cs 45
  hg : w0.grownBy w (some S)
theorem CS.kept {w0 w w' : World} {S n0 n1 k : Nat} {cs : Array Value} (h : CS w0 S n0 n1 k cs w) (q : Kept w w') : CS w0 S n0 n1 k cs w' := ⟨h.hS.kept q, h.h0.kept q, h.h1.kept q, h.hg.trans (q.grown _)⟩
theorem CS.on {w0 w w' : World} {S n0 n1 k k' : Nat} {cs : Array Value} (h : CS w0 S n0 n1 k cs w) (hs : Scn w' S T0 k') (g : w.grownBy w' (some S)) : CS w0 S n0 n1 k' cs w' :=
  ⟨hs, h.h0.grown g (fun e => blk_ne h.h0 h.hS (by decide) (Option.some.inj e)), h.h1.grown g (fun e => blk_ne h.h1 h.hS (by decide) (Option.some.inj e)), h.hg.trans g⟩
theorem CS.set {w0 w : World} {S n0 n1 k : Nat} {cs cs' : Array Value} (h : CS w0 S n0 n1 k cs w) (hn : w0.heap.size ≤ n1) (o : Nat) (u : Value) (e : cs.setIfInBounds o u = cs') : CS w0 S n0 n1 k cs' (w.setCell ⟨n1, o, none⟩ u) :=
  ⟨Blk.other h.hS (blk_ne h.hS h.h1 (by decide)) _ _, h.h0.other (blk_ne h.h0 h.h1 (by decide)) _ _, blk_set h.h1 u e, grown_new h.hg hn o u⟩
theorem fill9 {b : World} {n : Nat} {t : TypeId} {y0 y1 y2 y3 y4 y5 y6 y7 y8 : Value} (h : Blk b n #[y0, y1, y2, y3, y4, y5, y6, y7, y8] t) (x0 x1 x2 x3 x4 x5 x6 x7 x8 : Value) (W : World) (hW : W = (((((((((b.setCell ⟨n, 0, none⟩ x0).setCell ⟨n, 1, none⟩ x1).setCell ⟨n, 2, none⟩ x2).setCell ⟨n, 3, none⟩ x3).setCell ⟨n, 4, none⟩ x4).setCell ⟨n, 5, none⟩ x5).setCell ⟨n, 6, none⟩ x6).setCell ⟨n, 7, none⟩ x7).setCell ⟨n, 8, none⟩ x8)) :
    Blk W n #[x0, x1, x2, x3, x4, x5, x6, x7, x8] t ∧ (∀ m cs t', Blk b m cs t' → m ≠ n → Blk W m cs t') ∧ (∀ (a : World) S, a.grownBy b (some S) → a.heap.size ≤ n → a.grownBy W (some S)) := by
  obtain ⟨b3, hb3⟩ : ∃ x, x = ((b.setCell ⟨n, 0, none⟩ x0).setCell ⟨n, 1, none⟩ x1).setCell ⟨n, 2, none⟩ x2 := ⟨_, rfl⟩
  rw [← hb3] at hW
  have z0 : Blk (b.setCell ⟨n, 0, none⟩ x0) n #[x0, y1, y2, y3, y4, y5, y6, y7, y8] t := blk_set h _ rfl
  have z1 : Blk ((b.setCell ⟨n, 0, none⟩ x0).setCell ⟨n, 1, none⟩ x1) n #[x0, x1, y2, y3, y4, y5, y6, y7, y8] t := blk_set z0 _ rfl
  have z2 : Blk b3 n #[x0, x1, x2, y3, y4, y5, y6, y7, y8] t := by rw [hb3]; exact blk_set z1 _ rfl
  have o3 : ∀ m cs t', Blk b m cs t' → m ≠ n → Blk b3 m cs t' := fun m cs t' hm hne => by rw [hb3]; exact ((hm.other hne 0 x0).other hne 1 x1).other hne 2 x2
  have g3 : ∀ (a : World) S, a.grownBy b (some S) → a.heap.size ≤ n → a.grownBy b3 (some S) := fun a S g hn => by rw [hb3]; exact grown_new (grown_new (grown_new g hn 0 x0) hn 1 x1) hn 2 x2
  subst hW
  have z3 : Blk (b3.setCell ⟨n, 3, none⟩ x3) n #[x0, x1, x2, x3, y4, y5, y6, y7, y8] t := blk_set z2 _ rfl
  have z4 : Blk ((b3.setCell ⟨n, 3, none⟩ x3).setCell ⟨n, 4, none⟩ x4) n #[x0, x1, x2, x3, x4, y5, y6, y7, y8] t := blk_set z3 _ rfl
  have z5 : Blk (((b3.setCell ⟨n, 3, none⟩ x3).setCell ⟨n, 4, none⟩ x4).setCell ⟨n, 5, none⟩ x5) n #[x0, x1, x2, x3, x4, x5, y6, y7, y8] t := blk_set z4 _ rfl
  have z6 : Blk ((((b3.setCell ⟨n, 3, none⟩ x3).setCell ⟨n, 4, none⟩ x4).setCell ⟨n, 5, none⟩ x5).setCell ⟨n, 6, none⟩ x6) n #[x0, x1, x2, x3, x4, x5, x6, y7, y8] t := blk_set z5 _ rfl
  have z7 : Blk (((((b3.setCell ⟨n, 3, none⟩ x3).setCell ⟨n, 4, none⟩ x4).setCell ⟨n, 5, none⟩ x5).setCell ⟨n, 6, none⟩ x6).setCell ⟨n, 7, none⟩ x7) n #[x0, x1, x2, x3, x4, x5, x6, x7, y8] t := blk_set z6 _ rfl
  refine ⟨blk_set z7 _ rfl, fun m cs t' hm hne => ?_, fun a S g hn => ?_⟩
  · exact ((((((o3 m cs t' hm hne).other hne 3 x3).other hne 4 x4).other hne 5 x5).other hne 6 x6).other hne 7 x7).other hne 8 x8
  · exact grown_new (grown_new (grown_new (grown_new (grown_new (grown_new (g3 a S g hn) hn 3 x3) hn 4 x4) hn 5 x5) hn 6 x6) hn 7 x7) hn 8 x8
/-- A season lies filled. -/
abbrev SeaEnd (w : World) (S Hb A : Nat) (wx : World) : Prop := Hid (w.heap.size ≤ A) ∧ Hid (Blk wx A #[.string ⟨#[115]⟩, .int .i64 3, .int .i64 8, .int .i64 0, .int .i64 0, .int .i64 0, .int .i64 0, .int .i64 0, .int .i64 0] 107) ∧ Hid (CS w S w.heap.size (w.heap.size + 1) 29 #[.int .i64 5, .slice none 0 0, .slice none 0 0] wx) ∧ Hid (Blk wx Hb #[.string ⟨#[101, 110, 100]⟩, .string ⟨#[102, 101, 97, 115, 116]⟩, .string ⟨#[115, 101, 97, 115, 111, 110]⟩] 9)
theorem sea_set {w w8 w11 : World} {S Hb A : Nat} (hlw : w.heap.size + 1 < w8.heap.size) (hS8 : S < w8.heap.size) (Q8 : CS w S w.heap.size (w.heap.size + 1) 23 #[.int .i64 5, .slice none 0 0, .slice none 0 0] w8) (H8 : Blk w8 Hb #[.string ⟨#[101, 110, 100]⟩, .string ⟨#[102, 101, 97, 115, 116]⟩, .string ⟨#[115, 101, 97, 115, 111, 110]⟩] 9) (M : Moved [S] w8 w11) (hs : Scn w11 S T0 29) (hA : w8.heap.size ≤ A)
    (bA : Blk w11 A #[.string ⟨#[]⟩, .int .i64 0, .int .i64 0, .int .i64 0, .int .i64 0, .int .i64 0, .int .i64 0, .int .i64 0, .int .i64 0] 107) :
    SeaEnd w S Hb A (((((((((w11.setCell ⟨A, 0, none⟩ (.string (T0.extract 24 25))).setCell ⟨A, 1, none⟩ (.int .i64 (numV T0 26 1))).setCell ⟨A, 2, none⟩ (.int .i64 (numV T0 28 1))).setCell ⟨A, 3, none⟩ (.int .i64 0)).setCell ⟨A, 4, none⟩ (.int .i64 0)).setCell ⟨A, 5, none⟩ (.int .i64 0)).setCell ⟨A, 6, none⟩ (.int .i64 0)).setCell ⟨A, 7, none⟩ (.int .i64 0)).setCell ⟨A, 8, none⟩ (.int .i64 0)) := by
  have Q := Q8.on hs M.grown
  have H := H8.grown M.grown (fun e => blk_ne H8 Q8.hS (by decide) (Option.some.inj e))
  have hl := H8.lt
  obtain ⟨x1, x2, x3⟩ := fill9 bA (.string (T0.extract 24 25)) (.int .i64 (numV T0 26 1)) (.int .i64 (numV T0 28 1)) (.int .i64 0) (.int .i64 0) (.int .i64 0) (.int .i64 0) (.int .i64 0) (.int .i64 0) _ rfl
  refine ⟨Lib.hid (by omega), Lib.hid ?_, Lib.hid ⟨x2 _ _ _ Q.hS (by omega), x2 _ _ _ Q.h0 (by omega), x2 _ _ _ Q.h1 (by omega), x3 _ _ Q.hg (by omega)⟩, Lib.hid (x2 _ _ _ H (by omega))⟩
  rw [v_24, v_26, v_28] at x1 ⊢
  exact x1
theorem sea_new {w w8 w11 : World} {S Hb : Nat} (hlw : w.heap.size + 1 < w8.heap.size) (hS8 : S < w8.heap.size) (Q8 : CS w S w.heap.size (w.heap.size + 1) 23 #[.int .i64 5, .slice none 0 0, .slice none 0 0] w8) (H8 : Blk w8 Hb #[.string ⟨#[101, 110, 100]⟩, .string ⟨#[102, 101, 97, 115, 116]⟩, .string ⟨#[115, 101, 97, 115, 111, 110]⟩] 9) (M : Moved [S] w8 w11) (hs : Scn w11 S T0 29) :
    SeaEnd w S Hb w11.heap.size (w11.alloc (.cells #[.string (T0.extract 24 25), .int .i64 (numV T0 26 1), .int .i64 (numV T0 28 1), .int .i64 0, .int .i64 0, .int .i64 0, .int .i64 0, .int .i64 0, .int .i64 0] 107)) := by
  have Q := Q8.on hs M.grown
  have H := H8.grown M.grown (fun e => blk_ne H8 Q8.hS (by decide) (Option.some.inj e))
  have hsz := M.size
  refine ⟨Lib.hid (by omega), Lib.hid ?_, Lib.hid (Q.kept ((Kept.refl w11).alloc _)), Lib.hid (H.alloc _)⟩
  rw [v_24, v_26, v_28]
  exact Blk.new w11 _ _
theorem fillA {b : World} {n : Nat} {t : TypeId} {y0 y1 y2 y3 y4 y5 y6 y7 y8 : Value} (h : Blk b n #[y0, y1, y2, y3, y4, y5, y6, y7, y8] t) (x3 x4 x5 x6 x7 x8 : Value) (W : World) (hW : W = ((((((b.setCell ⟨n, 3, none⟩ x3).setCell ⟨n, 4, none⟩ x4).setCell ⟨n, 5, none⟩ x5).setCell ⟨n, 6, none⟩ x6).setCell ⟨n, 7, none⟩ x7).setCell ⟨n, 8, none⟩ x8)) :
    Blk W n #[y0, y1, y2, x3, x4, x5, x6, x7, x8] t ∧ (∀ m cs t', Blk b m cs t' → m ≠ n → Blk W m cs t') ∧ (∀ (a : World) S, a.grownBy b (some S) → a.heap.size ≤ n → a.grownBy W (some S)) := by
  subst hW
  have z3 : Blk (b.setCell ⟨n, 3, none⟩ x3) n #[y0, y1, y2, x3, y4, y5, y6, y7, y8] t := blk_set h _ rfl
  have z4 : Blk ((b.setCell ⟨n, 3, none⟩ x3).setCell ⟨n, 4, none⟩ x4) n #[y0, y1, y2, x3, x4, y5, y6, y7, y8] t := blk_set z3 _ rfl
  have z5 : Blk (((b.setCell ⟨n, 3, none⟩ x3).setCell ⟨n, 4, none⟩ x4).setCell ⟨n, 5, none⟩ x5) n #[y0, y1, y2, x3, x4, x5, y6, y7, y8] t := blk_set z4 _ rfl
  have z6 : Blk ((((b.setCell ⟨n, 3, none⟩ x3).setCell ⟨n, 4, none⟩ x4).setCell ⟨n, 5, none⟩ x5).setCell ⟨n, 6, none⟩ x6) n #[y0, y1, y2, x3, x4, x5, x6, y7, y8] t := blk_set z5 _ rfl
  have z7 : Blk (((((b.setCell ⟨n, 3, none⟩ x3).setCell ⟨n, 4, none⟩ x4).setCell ⟨n, 5, none⟩ x5).setCell ⟨n, 6, none⟩ x6).setCell ⟨n, 7, none⟩ x7) n #[y0, y1, y2, x3, x4, x5, x6, x7, y8] t := blk_set z6 _ rfl
  refine ⟨blk_set z7 _ rfl, fun m cs t' hm hne => ?_, fun a S g hn => ?_⟩
  · exact (((((hm.other hne 3 x3).other hne 4 x4).other hne 5 x5).other hne 6 x6).other hne 7 x7).other hne 8 x8
  · exact grown_new (grown_new (grown_new (grown_new (grown_new (grown_new g hn 3 x3) hn 4 x4) hn 5 x5) hn 6 x6) hn 7 x7) hn 8 x8
theorem info_sea1 : (Tryz.prog.info? 107).map (fun i => (i.zero, i.size, i.bytes)) = some (some (.agg #[.string ⟨#[]⟩, .int .i64 0, .int .i64 0, .int .i64 0, .int .i64 0, .int .i64 0, .int .i64 0, .int .i64 0, .int .i64 0]), 9, 80) := by kernel_rfl
theorem isRecs1 {w : World} {b : Nat} {v : Value} {t : TypeId} (r : Rec) (h : w.ownsRow b t 9 v 1 (Rec.vals r)) : ∃ o c, v = .slice o 1 c ∧ IsRecs w o [r] := by
  have hc := h
  obtain ⟨_, ⟨rfl, h0⟩ | ⟨g, cap, cur, rfl, hb, hh, _⟩⟩ := h
  · omega
  · refine ⟨_, _, rfl, fun j hj => ?_⟩
    obtain rfl : j = 0 := by simpa using hj
    refine ⟨g, 0, rfl, fun i u hu => ?_⟩
    have := hc.cells (g := g) rfl i u hu
    simpa [Addr.add_lit] using this
theorem newsb (W : World) (cs : Array Value) (t : TypeId) (n : Nat) (hn : n = W.heap.size) : (W.alloc (.cells cs t)).heap[n]? = some (.cells cs t (0, 0)) := by
  subst hn
  exact Blk.new W cs t
theorem kept_none {a b : World} (h : a.grownBy b none) : Kept a b := ⟨h.os, h.tape, h.output, h.size, fun k hk => h.block k hk (by simp)⟩
theorem pCat_ok (S : Nat) (w : World) (hS : Scn w S T0 0) :
    Calls Tryz.prog 77 #[(.agg #[.pointer (some ⟨S, 0, none⟩)])] w fun e w' => ∃ o q, e = .returned (.agg #[.int .i64 5, .slice o 1 q, .slice none 0 0]) ∧ w'.ownsRow w.heap.size 107 9 (.slice o 1 q) 1 (Rec.vals ⟨⟨#[115]⟩, 3, 8, 1, 1, 1, 0, 0, 0⟩) ∧ Scn w' S T0 44 ∧ w.grownBy w' (some S) := by
  have lS := Blk.lt hS
  have HS := Lib.hid hS
  clear hS
  have hz : T0.size ≤ 1000000000000 := by rw [t_size]; decide
  have KW := Lib.hid (fun W b (q : Kept w W) hb hbS hcl => Word1w_ok S T0 0 ⟨#[99, 97, 116, 97, 108, 111, 103, 117, 101, 10, 102, 114, 101, 101]⟩ b 1 W (HS.out.kept q) hb hbS hcl t_head hz (by decide))
  go_enter Tryz.func77, Tryz.ntmps77
  go_wp2_with fail
  have Q1 : CS w S w.heap.size (w.heap.size + 1) 0 #[.int .i64 0, .slice none 0 0, .slice none 0 0] ((w.alloc (.cells #[.pointer (some ⟨S, 0, none⟩)] 144)).alloc (.cells #[.int .i64 0, .slice none 0 0, .slice none 0 0] 45)) :=
    ⟨HS.out.kept (((Kept.refl w).alloc _).alloc _), (Blk.new w _ _).alloc _, (by have := Blk.new (w.alloc (.cells #[.pointer (some ⟨S, 0, none⟩)] 144)) #[.int .i64 0, .slice none 0 0, .slice none 0 0] 45; rw [World.size_alloc] at this; exact this), Kept.grown (((Kept.refl w).alloc _).alloc _) _⟩
  have Q1a := Lib.hid (Q1.kept ((Kept.refl _).alloc (.cells #[.string ⟨#[99, 97, 116, 97, 108, 111, 103, 117, 101, 10, 102, 114, 101, 101]⟩] 9)))
  clear Q1
  go_at_call 120
  refine (KW.out _ (w.heap.size + 1 + 1) (by (repeat (first | with_reducible assumption | with_reducible exact Kept.refl _ | with_reducible apply Kept.drew | with_reducible apply Kept.alloc | (with_reducible refine Kept.setCell ?_ (by first | exact Nat.le_refl _ | (dsimp only; omega)) _)))) ?_ (by omega) ?_).mono ?_
  · simp
  · exact new_cell0 _ _ _ _ (by simp)
  rintro e w2 ⟨rfl, hS2, hg2⟩
  have Q2 : Hid (CS _ _ _ _ 14 _ _) := Lib.hid (Q1a.out.on hS2 hg2)
  clear Q1a hS2 hg2 KW
  have e0 : w2.cell? ⟨w.heap.size, 0, none⟩ = some (.pointer (some ⟨S, 0, none⟩)) := (Q2.out.h0.cell _).trans rfl
  have c0 : w2.cell? ⟨w.heap.size + 1, 0, none⟩ = some (.int .i64 0) := (Q2.out.h1.cell _).trans rfl
  have f0 := Q2.out.h1.free 0
  have l0 := Q2.out.h0.lt
  have l1 := Q2.out.h1.lt
  have KN := Lib.hid (fun W (q : Kept w2 W) => pNum_ok S T0 14 1 W (Q2.out.hS.kept q) t_14 t_15 hz)
  rw [v_15] at KN
  have n01 : w.heap.size ≤ w.heap.size + 1 := by omega
  go_wp2_with fail
  go_at_call 121
  refine (KN.out _ (by (repeat (first | with_reducible assumption | with_reducible exact Kept.refl _ | with_reducible apply Kept.drew | with_reducible apply Kept.alloc | (with_reducible refine Kept.setCell ?_ (by first | exact Nat.le_refl _ | (dsimp only; omega)) _))))).mono ?_
  rintro e w3 ⟨rfl, hS3, hg3⟩
  have Q3 : Hid (CS w S w.heap.size (w.heap.size + 1) 16 #[.int .i64 0, .slice none 0 0, .slice none 0 0] w3) := Lib.hid (Q2.out.on hS3 hg3)
  clear KN hS3 hg3 Q2 e0 c0 f0 l0 l1
  have e0 : w3.cell? ⟨w.heap.size, 0, none⟩ = some (.pointer (some ⟨S, 0, none⟩)) := (Q3.out.h0.cell _).trans rfl
  have c0 : w3.cell? ⟨w.heap.size + 1, 0, none⟩ = some (.int .i64 0) := (Q3.out.h1.cell _).trans rfl
  have f0 := Q3.out.h1.free 0
  have l0 := Q3.out.h0.lt
  have l1 := Q3.out.h1.lt
  have hne1 : ¬ w.heap.size = w.heap.size + 1 := by omega
  go_wp2_with fail
  have Q4 := Lib.hid (Q3.out.set n01 0 (.int .i64 5) (cs' := #[.int .i64 5, .slice none 0 0, .slice none 0 0]) rfl)
  obtain ⟨w4, hw4⟩ : ∃ x, x = w3.setCell ⟨w.heap.size + 1, 0, none⟩ (.int .i64 5) := ⟨_, rfl⟩
  have hz4 : w4.heap.size = w3.heap.size := by rw [hw4]; simp
  rw [← hw4] at Q4 ⊢
  have KW := Lib.hid (fun W b (q : Kept w4 W) hb hbS hcl => Word1w_ok S T0 16 ⟨#[10]⟩ b 1 W (Q4.out.hS.kept q) hb hbS hcl t_16 hz (by decide))
  have Q4a := Lib.hid (Q4.out.kept ((Kept.refl w4).alloc (.cells #[.string ⟨#[10]⟩] 9)))
  clear Q3 e0 c0 f0 l0 l1 hw4
  go_at_call 120
  refine (KW.out _ w3.heap.size (by (repeat (first | with_reducible assumption | with_reducible exact Kept.refl _ | with_reducible apply Kept.drew | with_reducible apply Kept.alloc | (with_reducible refine Kept.setCell ?_ (by first | exact Nat.le_refl _ | (dsimp only; omega)) _)))) ?_ ?_ ?_).mono ?_
  · simp; omega
  · have := Blk.lt Q4.out.hS; omega
  · exact new_cell0 _ _ _ _ hz4.symm
  rintro e w5 ⟨rfl, hS5, hg5⟩
  have Q5 : Hid (CS _ _ _ _ 17 _ _) := Lib.hid (Q4a.out.on hS5 hg5)
  clear Q4 Q4a hS5 hg5 KW
  have e0 : w5.cell? ⟨w.heap.size, 0, none⟩ = some (.pointer (some ⟨S, 0, none⟩)) := (Q5.out.h0.cell _).trans rfl
  have l0 := Q5.out.h0.lt
  have l1 := Q5.out.h1.lt
  go_wp2_with fail
  obtain ⟨Hb, hHb⟩ : ∃ x, x = w5.heap.size := ⟨_, rfl⟩
  rw [← hHb]
  obtain ⟨w6, hw6⟩ : ∃ x, x = w5.alloc (.cells #[.string ⟨#[101, 110, 100]⟩, .string ⟨#[102, 101, 97, 115, 116]⟩, .string ⟨#[115, 101, 97, 115, 111, 110]⟩] 9) := ⟨_, rfl⟩
  rw [← hw6]
  have k6 : Kept w5 w6 := by rw [hw6]; exact (Kept.refl w5).alloc _
  have Q6 := Lib.hid (Q5.out.kept k6)
  have H6 : Hid (Blk w6 Hb #[.string ⟨#[101, 110, 100]⟩, .string ⟨#[102, 101, 97, 115, 116]⟩, .string ⟨#[115, 101, 97, 115, 111, 110]⟩] 9) := (show Blk _ _ _ _ from by rw [hw6, hHb]; exact Blk.new w5 _ _)
  have hwH : w.heap.size ≤ Hb := by rw [hHb]; exact Q5.out.hg.size
  clear Q5 e0 l0 l1 hw6 k6 hHb
  generalize w5.heap.size = z5 at *
  generalize w3.heap.size = z3 at *
  go_loopw [3] (fun hd wr => hd = .slice (some ⟨Hb, 0, none⟩) 3 3 ∧ Hid (Blk wr Hb #[.string ⟨#[101, 110, 100]⟩, .string ⟨#[102, 101, 97, 115, 116]⟩, .string ⟨#[115, 101, 97, 115, 111, 110]⟩] 9) ∧ (Hid (CS w S w.heap.size (w.heap.size + 1) 17 #[.int .i64 5, .slice none 0 0, .slice none 0 0] wr) ∨ ∃ o q, Hid (CS w S w.heap.size (w.heap.size + 1) 40 #[.int .i64 5, .slice o 1 q, .slice none 0 0] wr) ∧ Hid (wr.ownsRow w.heap.size 107 9 (.slice o 1 q) 1 (Rec.vals ⟨⟨#[115]⟩, 3, 8, 1, 1, 1, 0, 0, 0⟩)))) (fun _ wr => 40 - atOf wr S)
  case atStart => exact ⟨rfl, H6, .inl Q6⟩
  case round =>
    obtain ⟨rfl, HH, hor⟩ := hrel
    rcases hor with HQ | ⟨o, q, HQ, HR⟩
    · have e0 : wr.cell? ⟨w.heap.size, 0, none⟩ = some (.pointer (some ⟨S, 0, none⟩)) := (HQ.out.h0.cell _).trans rfl
      have l0 := HQ.out.h0.lt
      have l1 := HQ.out.h1.lt
      have KE := Lib.hid (fun W (q : Kept wr W) => Err_ok S T0 17 W (HQ.out.hS.kept q))
      have KW := Lib.hid (fun W (q : Kept wr W) => Word_ok S T0 17 2 [(⟨#[101, 110, 100]⟩ : ByteArray), ⟨#[102, 101, 97, 115, 116]⟩, ⟨#[115, 101, 97, 115, 111, 110]⟩] Hb 3 W (HQ.out.hS.kept q) (by have := HH.out.lt; have := q.size; omega) (blk_ne HH.out HQ.out.hS (by decide)) (fun j hj => by
        rw [(HH.out.kept q).cell]
        match j, hj with
        | 0, _ => rfl
        | 1, _ => rfl
        | 2, _ => rfl) t_17 hz (by decide) (by decide))
      go_wp2_with fail
      go_at_call 78
      refine (KE.out _ (by (repeat (first | with_reducible assumption | with_reducible exact Kept.refl _ | with_reducible apply Kept.drew | with_reducible apply Kept.alloc | (with_reducible refine Kept.setCell ?_ (by first | exact Nat.le_refl _ | (dsimp only; omega)) _))))).mono ?_
      rintro e w7 ⟨rfl, hk7⟩
      have kk7 : Kept wr w7 := Kept.trans (by (repeat (first | with_reducible assumption | with_reducible exact Kept.refl _ | with_reducible apply Kept.drew | with_reducible apply Kept.alloc | (with_reducible refine Kept.setCell ?_ (by first | exact Nat.le_refl _ | (dsimp only; omega)) _)))) hk7
      have e07 := (kk7.cell _ 0 l0).trans e0
      have l07 : w.heap.size < w7.heap.size := by have := kk7.size; omega
      go_wp2_with fail
      go_at_call 120
      refine (KW.out _ (kk7.trans (by (repeat (first | with_reducible assumption | with_reducible exact Kept.refl _ | with_reducible apply Kept.drew | with_reducible apply Kept.alloc | (with_reducible refine Kept.setCell ?_ (by first | exact Nat.le_refl _ | (dsimp only; omega)) _)))))).mono ?_
      rintro e w8 ⟨rfl, hS8, hg8⟩
      have Q8 : Hid (CS w S w.heap.size (w.heap.size + 1) 23 #[.int .i64 5, .slice none 0 0, .slice none 0 0] w8) := Lib.hid ((HQ.out.kept (kk7.trans (by (repeat (first | with_reducible assumption | with_reducible exact Kept.refl _ | with_reducible apply Kept.drew | with_reducible apply Kept.alloc | (with_reducible refine Kept.setCell ?_ (by first | exact Nat.le_refl _ | (dsimp only; omega)) _)))))).on hS8 hg8)
      have H8 := Lib.hid ((HH.out.kept (kk7.trans (by (repeat (first | with_reducible assumption | with_reducible exact Kept.refl _ | with_reducible apply Kept.drew | with_reducible apply Kept.alloc | (with_reducible refine Kept.setCell ?_ (by first | exact Nat.le_refl _ | (dsimp only; omega)) _)))))).grown hg8 (fun e => blk_ne HH.out HQ.out.hS (by decide) (Option.some.inj e)))
      have hAt := Lib.hid (Scn.at HQ.out.hS)
      clear KE KW hS8 hg8 hk7 kk7 e07 l07 e0 l0 l1
      have e0 : w8.cell? ⟨w.heap.size, 0, none⟩ = some (.pointer (some ⟨S, 0, none⟩)) := (Q8.out.h0.cell _).trans rfl
      have l0 := Q8.out.h0.lt
      have l1 := Q8.out.h1.lt
      have hpS : ¬ w.heap.size = S := by omega
      have hS8 := Blk.lt Q8.out.hS
      have hx8 : ¬ w8.heap.size = S := by omega
      have hkeep : ∀ w', Moved [S] w8 w' → Moved [S] w8 w' ∧ w'.cell? ⟨w.heap.size, 0, none⟩ = some (.pointer (some ⟨S, 0, none⟩)) := fun w' M => ⟨M, (M.cell l0 (by simpa using hpS) 0).trans e0⟩
      have HKP := Lib.hid hkeep
      have KI := Lib.hid (fun W (q : Kept w8 W) => pIdent_ok S T0 23 1 W (Q8.out.hS.kept q) t_23 t_24 hz)
      clear hkeep
      go_wp2_with fail
      go_cut [5] (fun s5 wx => ∃ A, s5 = .pointer (some ⟨A, 0, none⟩) ∧ SeaEnd w S Hb A wx)
      case first =>
        go_region_held3 (fun w' => Moved [S] w8 w' ∧ w'.cell? ⟨w.heap.size, 0, none⟩ = some (.pointer (some ⟨S, 0, none⟩)))
          ((refine HKP.out _ ?_; (repeat (first | with_reducible assumption | with_reducible exact Moved.refl _ _ | with_reducible apply Moved.drew | with_reducible apply Moved.alloc | with_reducible refine Moved.setNew ?_ (by omega) _ _))))
          (first
            | (go_at_call 123; (with_reducible refine (KI.out _ ?_).mono ?_); (· (repeat (first | with_reducible assumption | with_reducible exact Kept.refl _ | with_reducible apply Kept.drew | with_reducible apply Kept.alloc | (with_reducible refine Kept.setCell ?_ (by first | exact Nat.le_refl _ | (dsimp only; omega)) _)))); rintro e w9 ⟨rfl, hS9, hg9⟩; obtain ⟨hc9, hf9⟩ := grown_cells hg9; have hz9 := hg9.size; have M9 : Moved [S] w8 w9 := (Kept.moved (show Kept w8 _ from by (repeat (first | with_reducible assumption | with_reducible exact Kept.refl _ | with_reducible apply Kept.drew | with_reducible apply Kept.alloc | (with_reducible refine Kept.setCell ?_ (by first | exact Nat.le_refl _ | (dsimp only; omega)) _)))) _).trans (moved_grown hg9 (List.mem_cons_self ..)); have sz9 := M9.size; (try simp only [World.size_alloc, World.size_drew] at hz9); (first | (have y9 : w8.heap.size < w9.heap.size := (by omega)) | skip); have HS9 := Lib.hid hS9; have KN9 := Lib.hid (fun W (q : Kept w9 W) => pNum_ok S T0 25 1 W (HS9.out.kept q) t_25 t_26 hz); have hx9 : ¬ w9.heap.size = S := (by have := Blk.lt hS9; omega))
            | (go_at_call 121; (with_reducible refine (KN9.out _ ?_).mono ?_); (· (repeat (first | with_reducible assumption | with_reducible exact Kept.refl _ | with_reducible apply Kept.drew | with_reducible apply Kept.alloc | (with_reducible refine Kept.setCell ?_ (by first | exact Nat.le_refl _ | (dsimp only; omega)) _)))); rintro e w10 ⟨rfl, hS10, hg10⟩; obtain ⟨hc10, hf10⟩ := grown_cells hg10; have hz10 := hg10.size; have M10 : Moved [S] w8 w10 := (M9.trans (Kept.moved (show Kept w9 _ from by (repeat (first | with_reducible assumption | with_reducible exact Kept.refl _ | with_reducible apply Kept.drew | with_reducible apply Kept.alloc | (with_reducible refine Kept.setCell ?_ (by first | exact Nat.le_refl _ | (dsimp only; omega)) _)))) _)).trans (moved_grown hg10 (List.mem_cons_self ..)); have sz10 := M10.size; (try simp only [World.size_alloc, World.size_drew] at hz9); (try simp only [World.size_alloc, World.size_drew] at hz10); (first | (have y10 : w8.heap.size < w10.heap.size := (by omega)) | skip); (first | (have y10a : w9.heap.size < w10.heap.size := (by omega)) | skip); have HS10 := Lib.hid hS10; have KN10 := Lib.hid (fun W (q : Kept w10 W) => pNum_ok S T0 27 1 W (HS10.out.kept q) t_27 t_28 hz); have hx10 : ¬ w10.heap.size = S := (by have := Blk.lt hS10; omega))
            | (go_at_call 121; (with_reducible refine (KN10.out _ ?_).mono ?_); (· (repeat (first | with_reducible assumption | with_reducible exact Kept.refl _ | with_reducible apply Kept.drew | with_reducible apply Kept.alloc | (with_reducible refine Kept.setCell ?_ (by first | exact Nat.le_refl _ | (dsimp only; omega)) _)))); rintro e w11 ⟨rfl, hS11, hg11⟩; obtain ⟨hc11, hf11⟩ := grown_cells hg11; have hz11 := hg11.size; have M11 : Moved [S] w8 w11 := (M10.trans (Kept.moved (show Kept w10 _ from by (repeat (first | with_reducible assumption | with_reducible exact Kept.refl _ | with_reducible apply Kept.drew | with_reducible apply Kept.alloc | (with_reducible refine Kept.setCell ?_ (by first | exact Nat.le_refl _ | (dsimp only; omega)) _)))) _)).trans (moved_grown hg11 (List.mem_cons_self ..)); have sz11 := M11.size; have HS11 := Lib.hid hS11; have hx11 : ¬ w11.heap.size = S := (by have := Blk.lt hS11; omega)))
        all_goals (go_wp2_with fail; go_meet)
        · exact ⟨_, rfl, sea_new l1 hS8 Q8.out H8.out M11 HS11.out⟩
        · exact ⟨_, rfl, sea_set l1 hS8 Q8.out H8.out M11 HS11.out sz10 ((Blk.new w10 _ _).grown hg11 (fun e => hx10 (Option.some.inj e)))⟩
        · exact ⟨_, rfl, sea_set l1 hS8 Q8.out H8.out M11 HS11.out sz9 (((Blk.new w9 _ _).grown hg10 (fun e => hx9 (Option.some.inj e))).grown hg11 (fun e => hx9 (Option.some.inj e)))⟩
        · exact ⟨_, rfl, sea_set l1 hS8 Q8.out H8.out M11 HS11.out (Nat.le_refl _) ((((Blk.new w8 _ _).drew.grown hg9 (fun e => hx8 (Option.some.inj e))).grown hg10 (fun e => hx8 (Option.some.inj e))).grown hg11 (fun e => hx8 (Option.some.inj e)))⟩
      case rest =>
        obtain ⟨A, rfl, hA, HA, QA, HH2⟩ := hcut
        clear KI HKP e0 l0 l1 hpS hx8 hS8 Q8 H8
        have e0 : wc.cell? ⟨w.heap.size, 0, none⟩ = some (.pointer (some ⟨S, 0, none⟩)) := (QA.out.h0.cell _).trans rfl
        have l0 := QA.out.h0.lt
        have l1 := QA.out.h1.lt
        have lA := HA.out.lt
        have KA := Lib.hid (fun W (q : Kept wc W) => pAnchor_ok S T0 29 1 1 W (QA.out.hS.kept q) t_29 t_30 t_35 t_36 t_37 t_38 t_39 hz)
        rw [v_36, v_38] at KA
        go_wp2_with fail
        go_at_call 125
        refine (KA.out _ (by (repeat (first | with_reducible assumption | with_reducible exact Kept.refl _ | with_reducible apply Kept.drew | with_reducible apply Kept.alloc | (with_reducible refine Kept.setCell ?_ (by first | exact Nat.le_refl _ | (dsimp only; omega)) _))))).mono ?_
        rintro e w12 ⟨rfl, hS12, hg12⟩
        have Q12 : Hid (CS w S w.heap.size (w.heap.size + 1) 40 #[.int .i64 5, .slice none 0 0, .slice none 0 0] w12) := Lib.hid (QA.out.on hS12 hg12)
        have hAS : A ≠ S := by have := hA.out; omega
        have B12 := Lib.hid (HA.out.grown hg12 (fun e => hAS (Option.some.inj e)))
        have H12 := Lib.hid (HH2.out.grown hg12 (fun e => by have := Option.some.inj e; omega))
        have hA0 : A ≠ w.heap.size := blk_ne B12.out Q12.out.h0 (by decide)
        have hA1 : A ≠ w.heap.size + 1 := blk_ne B12.out Q12.out.h1 (by decide)
        have hAH : A ≠ Hb := blk_ne B12.out H12.out (by decide)
        have t0 : w12.cell? ⟨A, 0, none⟩ = some (.string ⟨#[115]⟩) := (B12.out.cell _).trans rfl
        have t1 : w12.cell? ⟨A, 1, none⟩ = some (.int .i64 3) := (B12.out.cell _).trans rfl
        have t2 : w12.cell? ⟨A, 2, none⟩ = some (.int .i64 8) := (B12.out.cell _).trans rfl
        have d1 : w12.cell? ⟨w.heap.size + 1, 1, none⟩ = some (.slice none 0 0) := (Q12.out.h1.cell _).trans rfl
        have hA1' : ¬ w.heap.size + 1 = A := fun e => hA1 e.symm
        have lA := B12.out.lt
        have l1 := Q12.out.h1.lt
        have t3 : w12.cell? ⟨A, 3, none⟩ = some (.int .i64 0) := (B12.out.cell _).trans rfl
        have t4 : w12.cell? ⟨A, 4, none⟩ = some (.int .i64 0) := (B12.out.cell _).trans rfl
        have t5 : w12.cell? ⟨A, 5, none⟩ = some (.int .i64 0) := (B12.out.cell _).trans rfl
        have t6 : w12.cell? ⟨A, 6, none⟩ = some (.int .i64 0) := (B12.out.cell _).trans rfl
        have t7 : w12.cell? ⟨A, 7, none⟩ = some (.int .i64 0) := (B12.out.cell _).trans rfl
        have t8 : w12.cell? ⟨A, 8, none⟩ = some (.int .i64 0) := (B12.out.cell _).trans rfl
        have u3 := B12.out.free 3
        have u4 := B12.out.free 4
        have u5 := B12.out.free 5
        have u6 := B12.out.free 6
        have u7 := B12.out.free 7
        have u8 := B12.out.free 8
        clear KA QA HA HH2 hS12 hg12 e0 l0
        obtain ⟨iS, hiS, hzS0, hzS1, hzS2⟩ := info_parts info_sea1
        go_wp2_with (first
          | (at_builtin; refine wpList_append_own _ rfl _ _ 42 rfl w.heap.size 107 iS _ 9 80 Tryz.underlying42 hiS hzS0 hzS1 hzS2 rfl (by decide) (.slice none 0 0) 0 [] rfl (World.ownsRow_nil _ _ _ _) ⟨w12.heap.size, 0, none⟩ 1 1 [.string ⟨#[115]⟩, .int .i64 3, .int .i64 8, .int .i64 1, .int .i64 1, .int .i64 1, .int .i64 0, .int .i64 0, .int .i64 0] rfl rfl ?c1S ?c2S ?c3S ?c4S ?c5S ?_)
          | fail)
        case c1S => exact World.news_of_block (cs := #[.string ⟨#[115]⟩, .int .i64 3, .int .i64 8, .int .i64 1, .int .i64 1, .int .i64 1, .int .i64 0, .int .i64 0, .int .i64 0]) (t := 107) (fr := (0, 0)) (newsb _ _ _ _ (by simp))
        case c2S => simp [Value.oneCell']
        case c3S => unfold maxLen; omega
        case c4S => omega
        case c5S => have := Q12.out.hg.size; simp; omega
        intro v' w14 hown1 hgrow _
        obtain ⟨w13, hw13⟩ : ∃ x, x = ((((((w12.setCell ⟨A, 3, none⟩ (.int .i64 1)).setCell ⟨A, 4, none⟩ (.int .i64 1)).setCell ⟨A, 5, none⟩ (.int .i64 1)).setCell ⟨A, 6, none⟩ (.int .i64 0)).setCell ⟨A, 7, none⟩ (.int .i64 0)).setCell ⟨A, 8, none⟩ (.int .i64 0)) := ⟨_, rfl⟩
        rw [← hw13] at hgrow
        obtain ⟨x1, x2, x3⟩ := fillA B12.out (.int .i64 1) (.int .i64 1) (.int .i64 1) (.int .i64 0) (.int .i64 0) (.int .i64 0) w13 hw13
        have k14 : Kept w13 w14 := ((Kept.refl w13).alloc _).trans (kept_none hgrow)
        have Q14 : Hid (CS w S w.heap.size (w.heap.size + 1) 40 #[.int .i64 5, .slice none 0 0, .slice none 0 0] w14) := Lib.hid (CS.kept ⟨x2 _ _ _ Q12.out.hS hAS.symm, x2 _ _ _ Q12.out.h0 hA0.symm, x2 _ _ _ Q12.out.h1 hA1.symm, x3 _ _ Q12.out.hg hA.out⟩ k14)
        have H14 := Lib.hid ((x2 _ _ _ H12.out hAH.symm).kept k14)
        have HO : Hid (w14.ownsRow w.heap.size 107 9 v' 1 (Rec.vals ⟨⟨#[115]⟩, 3, 8, 1, 1, 1, 0, 0, 0⟩)) := Lib.hid hown1
        clear hgrow hw13 x1 x2 x3 k14 t0 t1 t2 t3 t4 t5 t6 t7 t8 u3 u4 u5 u6 u7 u8 d1 B12 Q12 H12 hown1 l1 lA
        have d1 : w14.cell? ⟨w.heap.size + 1, 1, none⟩ = some (.slice none 0 0) := (Q14.out.h1.cell _).trans rfl
        have g1 := Q14.out.h1.free 1
        have l1 := Q14.out.h1.lt
        obtain ⟨o, q, rfl⟩ := owns_form HO.out
        have HR := Lib.hid (own_set HO.out Q14.out.h1 (by decide) (o := 1) (.slice o 1 q))
        have Q15 := Lib.hid (Q14.out.set n01 1 (.slice o 1 q) (cs' := #[.int .i64 5, .slice o 1 q, .slice none 0 0]) rfl)
        have H15 := Lib.hid (H14.out.other (blk_ne H14.out Q14.out.h1 (by decide)) 1 (.slice o 1 q))
        clear HO Q14 H14
        go_wp2
        exact ⟨⟨rfl, H15, .inr ⟨o, q, Q15, HR⟩⟩, by rw [hAt.out, Scn.at Q15.out.hS]; omega⟩
    · have e0 : wr.cell? ⟨w.heap.size, 0, none⟩ = some (.pointer (some ⟨S, 0, none⟩)) := (HQ.out.h0.cell _).trans rfl
      have l0 := HQ.out.h0.lt
      have l1 := HQ.out.h1.lt
      have KE := Lib.hid (fun W (q : Kept wr W) => Err_ok S T0 40 W (HQ.out.hS.kept q))
      have KW := Lib.hid (fun W (q : Kept wr W) => Word_ok S T0 40 0 [(⟨#[101, 110, 100]⟩ : ByteArray), ⟨#[102, 101, 97, 115, 116]⟩, ⟨#[115, 101, 97, 115, 111, 110]⟩] Hb 3 W (HQ.out.hS.kept q) (by have := HH.out.lt; have := q.size; omega) (blk_ne HH.out HQ.out.hS (by decide)) (fun j hj => by
        rw [(HH.out.kept q).cell]
        match j, hj with
        | 0, _ => rfl
        | 1, _ => rfl
        | 2, _ => rfl) t_40 hz (by decide) (by decide))
      go_wp2_with fail
      go_at_call 78
      refine (KE.out _ (by (repeat (first | with_reducible assumption | with_reducible exact Kept.refl _ | with_reducible apply Kept.drew | with_reducible apply Kept.alloc | (with_reducible refine Kept.setCell ?_ (by first | exact Nat.le_refl _ | (dsimp only; omega)) _))))).mono ?_
      rintro e w7 ⟨rfl, hk7⟩
      have kk7 : Kept wr w7 := Kept.trans (by (repeat (first | with_reducible assumption | with_reducible exact Kept.refl _ | with_reducible apply Kept.drew | with_reducible apply Kept.alloc | (with_reducible refine Kept.setCell ?_ (by first | exact Nat.le_refl _ | (dsimp only; omega)) _)))) hk7
      have e07 := (kk7.cell _ 0 l0).trans e0
      have l07 : w.heap.size < w7.heap.size := by have := kk7.size; omega
      go_wp2_with fail
      go_at_call 120
      refine (KW.out _ (kk7.trans (by (repeat (first | with_reducible assumption | with_reducible exact Kept.refl _ | with_reducible apply Kept.drew | with_reducible apply Kept.alloc | (with_reducible refine Kept.setCell ?_ (by first | exact Nat.le_refl _ | (dsimp only; omega)) _)))))).mono ?_
      rintro e w8 ⟨rfl, hS8, hg8⟩
      have Q8 : Hid (CS w S w.heap.size (w.heap.size + 1) 43 #[.int .i64 5, .slice o 1 q, .slice none 0 0] w8) := Lib.hid ((HQ.out.kept (kk7.trans (by (repeat (first | with_reducible assumption | with_reducible exact Kept.refl _ | with_reducible apply Kept.drew | with_reducible apply Kept.alloc | (with_reducible refine Kept.setCell ?_ (by first | exact Nat.le_refl _ | (dsimp only; omega)) _)))))).on hS8 hg8)
      have hRw := owns_grown (owns_kept HR.out (kk7.trans (show Kept w7 _ from by (repeat (first | with_reducible assumption | with_reducible exact Kept.refl _ | with_reducible apply Kept.drew | with_reducible apply Kept.alloc | (with_reducible refine Kept.setCell ?_ (by first | exact Nat.le_refl _ | (dsimp only; omega)) _)))))) hg8 (.inr (owns_not_blk (owns_kept HR.out (kk7.trans (show Kept w7 _ from by (repeat (first | with_reducible assumption | with_reducible exact Kept.refl _ | with_reducible apply Kept.drew | with_reducible apply Kept.alloc | (with_reducible refine Kept.setCell ?_ (by first | exact Nat.le_refl _ | (dsimp only; omega)) _)))))) (HQ.out.hS.kept (kk7.trans (show Kept w7 _ from by (repeat (first | with_reducible assumption | with_reducible exact Kept.refl _ | with_reducible apply Kept.drew | with_reducible apply Kept.alloc | (with_reducible refine Kept.setCell ?_ (by first | exact Nat.le_refl _ | (dsimp only; omega)) _)))))) (by decide)))
      have R8 := Lib.hid hRw
      clear hRw KE KW hS8 hg8 hk7 kk7 e07 l07 e0 l0 l1 HR HQ HH
      have e0 : w8.cell? ⟨w.heap.size, 0, none⟩ = some (.pointer (some ⟨S, 0, none⟩)) := (Q8.out.h0.cell _).trans rfl
      have l0 := Q8.out.h0.lt
      have l1 := Q8.out.h1.lt
      have hSl := Blk.lt Q8.out.hS
      have KW := Lib.hid (fun W b (q : Kept w8 W) hb hbS hcl => Word1w_ok S T0 43 ⟨#[10]⟩ b 1 W (Q8.out.hS.kept q) hb hbS hcl t_43 hz (by decide))
      go_wp2_with fail
      go_at_call 120
      refine (KW.out _ w8.heap.size (by (repeat (first | with_reducible assumption | with_reducible exact Kept.refl _ | with_reducible apply Kept.drew | with_reducible apply Kept.alloc | (with_reducible refine Kept.setCell ?_ (by first | exact Nat.le_refl _ | (dsimp only; omega)) _)))) (by simp) (by omega) ?_).mono ?_
      · exact new_cell0 _ _ _ _ rfl
      rintro e w9 ⟨rfl, hS9, hg9⟩
      have kA : Kept w8 (w8.alloc (.cells #[.string ⟨#[10]⟩] 9)) := (Kept.refl w8).alloc _
      have Q9 : Hid (CS w S w.heap.size (w.heap.size + 1) 44 #[.int .i64 5, .slice o 1 q, .slice none 0 0] w9) := Lib.hid ((Q8.out.kept kA).on hS9 hg9)
      have R9 := Lib.hid (owns_grown (owns_kept R8.out kA) hg9 (.inr (owns_not_blk (owns_kept R8.out kA) (Q8.out.hS.kept kA) (by decide))))
      clear KW hS9 hg9 kA e0 l0 l1 hSl Q8 R8
      have e0 : w9.cell? ⟨w.heap.size, 0, none⟩ = some (.pointer (some ⟨S, 0, none⟩)) := (Q9.out.h0.cell _).trans rfl
      have l0 := Q9.out.h0.lt
      have KD := Lib.hid (fun W (q : Kept w9 W) => End_ok S T0 W (Q9.out.hS.kept q))
      go_wp2_with fail
      go_at_call 122
      refine (KD.out _ (by (repeat (first | with_reducible assumption | with_reducible exact Kept.refl _ | with_reducible apply Kept.drew | with_reducible apply Kept.alloc | (with_reducible refine Kept.setCell ?_ (by first | exact Nat.le_refl _ | (dsimp only; omega)) _))))).mono ?_
      rintro e w10 ⟨rfl, hk10⟩
      have Q10 := Lib.hid (Q9.out.kept hk10)
      have R10 := Lib.hid (owns_kept R9.out hk10)
      clear KD hk10 e0 l0 Q9 R9
      have c0 : w10.cell? ⟨w.heap.size + 1, 0, none⟩ = some (.int .i64 5) := (Q10.out.h1.cell _).trans rfl
      have c1 : w10.cell? ⟨w.heap.size + 1, 1, none⟩ = some (.slice o 1 q) := (Q10.out.h1.cell _).trans rfl
      have c2 : w10.cell? ⟨w.heap.size + 1, 2, none⟩ = some (.slice none 0 0) := (Q10.out.h1.cell _).trans rfl
      have f0 := Q10.out.h1.free 0
      have f1 := Q10.out.h1.free 1
      have f2 := Q10.out.h1.free 2
      have l1 := Q10.out.h1.lt
      go_wp2
      have Qa := Q10.out.set n01 0 (.int .i64 5) (cs' := #[.int .i64 5, .slice o 1 q, .slice none 0 0]) rfl
      have Ra := own_set R10.out Q10.out.h1 (by decide) (o := 0) (.int .i64 5)
      have Qb := Qa.set n01 1 (.slice o 1 q) (cs' := #[.int .i64 5, .slice o 1 q, .slice none 0 0]) rfl
      have Rb := own_set Ra Qa.h1 (by decide) (o := 1) (.slice o 1 q)
      have Qc := Qb.set n01 2 (.slice none 0 0) (cs' := #[.int .i64 5, .slice o 1 q, .slice none 0 0]) rfl
      have Rc := own_set Rb Qb.h1 (by decide) (o := 2) (.slice none 0 0)
      refine bodyPost_ret (results_cell_row Tryz.results77 _ _ (w.heap.size + 1) _ #[.int .i64 5, .slice o 1 q, .slice none 0 0] _ _ rfl Qc.h1 Tryz.underlying45 rfl (by kernel_rfl)) rfl ?_
      exact ⟨_, _, rfl, Rc, Qc.hS, Qc.hg⟩
end Go.Proofs.YtblaphkaklocfaaGreatDoor
/- Contract: cattext.Parse at a closed text. -/
namespace Go.Proofs.YtblaphkaklocfaaGreatDoor
open Go.ChangeShapes Go.WideShapes Go.ChangeAt Go.RowKit
set_option maxHeartbeats 2000000
set_option maxRecDepth 20000

/-- The season of the closed text. -/
def r0 : Rec := ⟨⟨#[115]⟩, 3, 8, 1, 1, 1, 0, 0, 0⟩
theorem Parse_ok (w : World) : Calls Tryz.prog 32 #[.string T0] w fun e w' => ∃ o q, e = .returned (.tuple #[.agg #[.int .i64 5, .slice o 1 q, .slice none 0 0], .int .i64 0, .int .i64 0]) ∧ IsRecs w' o [r0] ∧ Kept w w' := by
  have KN := Lib.hid (fun W => New_ok T0 W)
  have KC := Lib.hid (fun S W (h : Scn W S T0 0) => pCat_ok S W h)
  have KE := Lib.hid (fun S W (h : Scn W S T0 44) => Err_ok S T0 44 W h)
  generalize hT : T0 = t at *
  go_enter Tryz.func32, Tryz.ntmps32
  go_wp2_with fail
  obtain ⟨W1, hW1⟩ : ∃ x, x = w.alloc (.cells #[.int .i64 0, .slice none 0 0, .slice none 0 0] 45) := ⟨_, rfl⟩
  rw [← hW1]
  have k1 : Kept w W1 := by rw [hW1]; exact (Kept.refl w).alloc _
  have bR : Hid (Blk W1 w.heap.size #[.int .i64 0, .slice none 0 0, .slice none 0 0] 45) := (show Blk _ _ _ _ from by rw [hW1]; exact Blk.new w _ _)
  have hz1 := bR.out.lt
  clear hW1
  go_at_call 76
  refine (KN.out _).mono ?_
  rintro e w2 ⟨rfl, hS2, hk2⟩
  have HS2 := Lib.hid hS2
  have bR2 := Lib.hid (bR.out.kept hk2)
  have k2 := k1.trans hk2
  have hzS : Hid (W1.heap.size < w2.heap.size) := Lib.hid (Blk.lt hS2)
  clear hS2 hk2 bR
  generalize W1.heap.size = S at *
  go_wp2_with fail
  have kP : Kept w2 (w2.alloc (.cells #[.pointer (some ⟨S, 0, none⟩)] 144)) := (Kept.refl w2).alloc _
  have bP := Lib.hid (Blk.new w2 #[.pointer (some ⟨S, 0, none⟩)] 144)
  have K2 := Lib.hid (KC.out S _ (HS2.out.kept kP))
  go_at_call 77
  refine K2.out.mono ?_
  rintro e w3 ⟨o, q, rfl, hrec, hS3, hg3⟩
  have HS3 := Lib.hid hS3
  have HR3 := Lib.hid hrec
  have hneS : Hid (w2.heap.size ≠ S ∧ w.heap.size ≠ S) := Lib.hid ⟨by have := hzS.out; omega, by omega⟩
  have bP3 := bP.out.grown hg3 (fun e => hneS.out.1 (Option.some.inj e))
  have bR3 := Lib.hid ((bR2.out.kept kP).grown hg3 (fun e => hneS.out.2 (Option.some.inj e)))
  have k3 : Kept w w3 := ⟨(k2.trans kP).os ▸ hg3.os, (k2.trans kP).tape ▸ hg3.tape, (k2.trans kP).output ▸ hg3.output, Nat.le_trans (k2.trans kP).size hg3.size, fun k hk => (hg3.block k (Nat.lt_of_lt_of_le hk (k2.trans kP).size) (fun e => by have := Option.some.inj e; omega)).trans ((k2.trans kP).block k hk)⟩
  have e0 : w3.cell? ⟨w2.heap.size, 0, none⟩ = some (.pointer (some ⟨S, 0, none⟩)) := (bP3.cell _).trans rfl
  have l0 := bP3.lt
  have HP3 := Lib.hid bP3
  clear hrec hS3 hg3 bP bP3 K2 kP bR2 HS2 KN KC
  generalize w2.heap.size = pp at *
  have KE3 := Lib.hid (fun W (k : Kept w3 W) => KE.out S W (HS3.out.kept k))
  go_wp2_with fail
  go_at_call 78
  refine (KE3.out _ (by (repeat (first | with_reducible assumption | with_reducible exact Kept.refl _ | with_reducible apply Kept.drew | with_reducible apply Kept.alloc | (with_reducible refine Kept.setCell ?_ (by first | exact Nat.le_refl _ | (dsimp only; omega)) _))))).mono ?_
  rintro e w4 ⟨rfl, hk4⟩
  have kA : Kept w3 w4 := ((Kept.refl w3).alloc (.cells #[.int .i64 5, .slice o 1 q, .slice none 0 0] 45)).trans hk4
  have bC := (Blk.new w3 #[.int .i64 5, .slice o 1 q, .slice none 0 0] 45).kept hk4
  have bR4 := bR3.out.kept kA
  have c0 : w4.cell? ⟨w3.heap.size, 0, none⟩ = some (.int .i64 5) := (bC.cell _).trans rfl
  have c1 : w4.cell? ⟨w3.heap.size, 1, none⟩ = some (.slice o 1 q) := (bC.cell _).trans rfl
  have c2 : w4.cell? ⟨w3.heap.size, 2, none⟩ = some (.slice none 0 0) := (bC.cell _).trans rfl
  have d0 : w4.cell? ⟨w.heap.size, 0, none⟩ = some (.int .i64 0) := (bR4.cell _).trans rfl
  have d1 : w4.cell? ⟨w.heap.size, 1, none⟩ = some (.slice none 0 0) := (bR4.cell _).trans rfl
  have d2 : w4.cell? ⟨w.heap.size, 2, none⟩ = some (.slice none 0 0) := (bR4.cell _).trans rfl
  have f0 := bR4.free 0
  have f1 := bR4.free 1
  have f2 := bR4.free 2
  have lR := bR4.lt
  have lC := bC.lt
  have HB4 := Lib.hid bR4
  have HR4 := Lib.hid (owns_kept HR3.out kA)
  have hlw : Hid (w.heap.size ≤ w3.heap.size) := Lib.hid k3.size
  have K4 := Lib.hid (k3.trans kA)
  clear kA hk4 bC bR4 KE3 KE e0 l0
  generalize w3.heap.size = cc at *
  go_wp2
  have B1 : Blk (w4.setCell ⟨w.heap.size, 0, none⟩ (.int .i64 5)) w.heap.size #[.int .i64 5, .slice none 0 0, .slice none 0 0] 45 := blk_set HB4.out _ rfl
  have B2 : Blk ((w4.setCell ⟨w.heap.size, 0, none⟩ (.int .i64 5)).setCell ⟨w.heap.size, 1, none⟩ (.slice o 1 q)) w.heap.size #[.int .i64 5, .slice o 1 q, .slice none 0 0] 45 := blk_set B1 _ rfl
  have B3 : Blk (((w4.setCell ⟨w.heap.size, 0, none⟩ (.int .i64 5)).setCell ⟨w.heap.size, 1, none⟩ (.slice o 1 q)).setCell ⟨w.heap.size, 2, none⟩ (.slice none 0 0)) w.heap.size #[.int .i64 5, .slice o 1 q, .slice none 0 0] 45 := blk_set B2 _ rfl
  have q0 := B3.cell 0
  have q1 := B3.cell 1
  have q2 := B3.cell 2
  refine bodyPost_ret (v := .tuple #[.agg #[.int .i64 5, .slice o 1 q, .slice none 0 0], .int .i64 0, .int .i64 0]) (by simp [results, Tryz.results32, go_sem, q0, q1, q2]) rfl ?_
  have Ra := own_set HR4.out HB4.out (by decide) (o := 0) (.int .i64 5)
  have Rb := own_set Ra B1 (by decide) (o := 1) (.slice o 1 q)
  have Rc := own_set Rb B2 (by decide) (o := 2) (.slice none 0 0)
  obtain ⟨o2, q2, e2, hrec⟩ := isRecs1 _ Rc
  simp only [Value.slice.injEq, true_and] at e2
  obtain ⟨rfl, rfl⟩ := e2
  exact ⟨_, _, rfl, hrec, Kept.setCell (Kept.setCell (Kept.setCell K4.out (Nat.le_refl _) _) (Nat.le_refl _) _) (Nat.le_refl _) _⟩
end Go.Proofs.YtblaphkaklocfaaGreatDoor

/- Plain: catalogues; the records of a slice; the map of what has been seen. -/
import Derived.Test.YthhaicledbcnmaaSea2
import Derived.Maps.OwnSet
import Derived.Maps.Views
import Derived.StringKeys
set_option linter.unusedSimpArgs false
set_option linter.unusedVariables false
set_option linter.unusedSectionVars false
namespace Go.Proofs.Ythhaicledbcnmaa
open Go.ChangeShapes Go.WideShapes Go.ChangeAt Go.RowKit
set_option maxHeartbeats 1000000
set_option maxRecDepth 20000

/-- A season or a feast. -/
structure Rec where
  s : ByteArray
  a : Int
  b : Int
  k : Int
  m : Int
  d : Int
  o : Int
  wd : Int
  c : Int
instance : Inhabited Rec := ⟨⟨ByteArray.empty, 0, 0, 0, 0, 0, 0, 0, 0⟩⟩
def Rec.vals (r : Rec) : List Value := [.string r.s, .int .i64 r.a, .int .i64 r.b, .int .i64 r.k, .int .i64 r.m, .int .i64 r.d, .int .i64 r.o, .int .i64 r.wd, .int .i64 r.c]
def Rec.val (r : Rec) : Value := .agg #[.string r.s, .int .i64 r.a, .int .i64 r.b, .int .i64 r.k, .int .i64 r.m, .int .i64 r.d, .int .i64 r.o, .int .i64 r.wd, .int .i64 r.c]
/-- What its memory may hold: the string's length, the last number's bounds. -/
def Rec.ok (r : Rec) : Prop := r.s.size ≤ maxLen ∧ -9223372036854775808 ≤ r.c ∧ r.c ≤ 9223372036854775807
def seaR (r : Rec) : Bool := seaB r.s r.a r.b r.k r.m r.d r.o r.wd r.c
def feaR (r : Rec) : Bool := feaB r.s r.a r.b r.k r.m r.d r.o r.wd r.c
def ids (L : List Rec) : List ByteArray := L.map Rec.s
/-- A well-formed catalogue. -/
def catP (f : Int) (L M : List Rec) : Prop := (0 ≤ f ∧ f ≤ 9) ∧ (1 ≤ L.length ∧ L.length ≤ 20) ∧ M.length ≤ 400 ∧ (∀ r ∈ L, seaR r = true) ∧ (∀ r ∈ M, feaR r = true) ∧ (ids L ++ ids M).Nodup
instance (f : Int) (L M : List Rec) : Decidable (catP f L M) := by unfold catP; infer_instance
def catB (f : Int) (L M : List Rec) : Bool := decide (catP f L M)
/-- The slice .slice o L.length _ holds the records L. -/
def IsRecs (w : World) (o : Option Addr) (L : List Rec) : Prop := ∀ j, j < L.length → ∃ b off, o = some ⟨b, off, none⟩ ∧ ∀ i u, (L[j]!).vals[i]? = some u → w.cell? ⟨b, off + j * 9 + i, none⟩ = some u
theorem IsRecs.kept {w w' : World} {o : Option Addr} {L : List Rec} (h : IsRecs w o L) (k : Kept w w') : IsRecs w' o L := fun j hj => by
  obtain ⟨b, off, e, hc⟩ := h j hj
  exact ⟨b, off, e, fun i u hu => (k.cell _ _ (lt_cellL (hc i u hu))).trans (hc i u hu)⟩
theorem isRecs_nil (w : World) (o : Option Addr) : IsRecs w o [] := fun j h => absurd h (Nat.not_lt_zero _)
theorem IsRecs.cells {w : World} {o : Option Addr} {L : List Rec} (h : IsRecs w o L) (j : Nat) (hj : j < L.length) : ∃ b off, o = some ⟨b, off, none⟩ ∧
    w.cell? ⟨b, off + j * 9, none⟩ = some (.string (L[j]!).s) ∧ w.cell? ⟨b, off + j * 9 + 1, none⟩ = some (.int .i64 (L[j]!).a) ∧ w.cell? ⟨b, off + j * 9 + 2, none⟩ = some (.int .i64 (L[j]!).b) ∧ w.cell? ⟨b, off + j * 9 + 3, none⟩ = some (.int .i64 (L[j]!).k) ∧
    w.cell? ⟨b, off + j * 9 + 4, none⟩ = some (.int .i64 (L[j]!).m) ∧ w.cell? ⟨b, off + j * 9 + 5, none⟩ = some (.int .i64 (L[j]!).d) ∧ w.cell? ⟨b, off + j * 9 + 6, none⟩ = some (.int .i64 (L[j]!).o) ∧ w.cell? ⟨b, off + j * 9 + 7, none⟩ = some (.int .i64 (L[j]!).wd) ∧ w.cell? ⟨b, off + j * 9 + 8, none⟩ = some (.int .i64 (L[j]!).c) := by
  obtain ⟨b, off, e, hc⟩ := h j hj
  exact ⟨b, off, e, hc 0 _ rfl, hc 1 _ rfl, hc 2 _ rfl, hc 3 _ rfl, hc 4 _ rfl, hc 5 _ rfl, hc 6 _ rfl, hc 7 _ rfl, hc 8 _ rfl⟩
/-- The map of the strings that have been seen. -/
def seenD (l : List ByteArray) : DataW Unit := l.foldl (fun D s => D.put (.string s.data.toList) (.lit (.bool true))) (.map [])
theorem seenD_snoc (l : List ByteArray) (s : ByteArray) : seenD (l ++ [s]) = (seenD l).put (.string s.data.toList) (.lit (.bool true)) := by unfold seenD; rw [List.foldl_append]; rfl
theorem key_inj (s t : ByteArray) (h : (Lit.string s.data.toList) = .string t.data.toList) : s = t := by
  have h2 : s.data.toList = t.data.toList := by injection h
  have h3 := Array.ext' h2
  cases s; cases t; simp_all
def inB (s : ByteArray) (l : List ByteArray) : Bool := l.any (fun t => decide (t = s))
theorem inB_iff (s : ByteArray) (l : List ByteArray) : inB s l = true ↔ s ∈ l := by
  unfold inB
  simp
theorem inB_cons (s x : ByteArray) (t : List ByteArray) : inB s (x :: t) = (decide (x = s) || inB s t) := rfl
theorem seen_all (l : List ByteArray) : Maps.IsMap (seenD l) ∧ ∀ s : ByteArray, (seenD l).atKey (.string s.data.toList) (.lit (.bool false)) = .lit (.bool (inB s l)) := by
  suffices h : ∀ (l : List ByteArray) (D : DataW Unit) (p : ByteArray → Bool), Maps.IsMap D → (∀ s : ByteArray, D.atKey (.string s.data.toList) (.lit (.bool false)) = .lit (.bool (p s))) →
      Maps.IsMap (l.foldl (fun D s => D.put (.string s.data.toList) (.lit (.bool true))) D) ∧ ∀ s : ByteArray, (l.foldl (fun D s => D.put (.string s.data.toList) (.lit (.bool true))) D).atKey (.string s.data.toList) (.lit (.bool false)) = .lit (.bool (p s || inB s l)) by
    obtain ⟨h1, h2⟩ := h l (.map []) (fun _ => false) Maps.isMap_empty (fun s => rfl)
    exact ⟨h1, fun s => by have := h2 s; simpa [seenD] using this⟩
  intro l
  induction l with
  | nil => intro D p h1 h2; exact ⟨h1, fun s => by simp [h2, inB]⟩
  | cons x t ih =>
    intro D p h1 h2
    obtain ⟨g1, g2⟩ := ih (D.put (.string x.data.toList) (.lit (.bool true))) (fun s => p s || decide (s = x)) (h1.put _ _) (fun s => by
      by_cases e : s = x
      · subst e
        rw [Maps.atKey_put_same h1 (by trivial)]
        simp
      · rw [Maps.atKey_put_other (fun h => e (key_inj _ _ h)), h2]
        simp [e])
    refine ⟨g1, fun s => (g2 s).trans ?_⟩
    congr 2
    rw [inB_cons]
    by_cases e : s = x
    · simp [e]
    · have e' : ¬ x = s := fun h => e h.symm
      simp [e, e']
end Go.Proofs.Ythhaicledbcnmaa

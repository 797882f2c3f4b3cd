/- Plain: a catalogue with one feast more or less. -/
import Derived.Test.YthhaicledbcnmaaCat2
set_option linter.unusedSimpArgs false
set_option linter.unusedVariables false
set_option linter.unusedSectionVars false
namespace Go.Proofs.Ythhaicledbcnmaa
open Go.ChangeShapes Go.WideShapes Go.ChangeAt Go.RowKit
set_option maxHeartbeats 2000000
set_option maxRecDepth 20000

theorem ids_app (A B : List Rec) : ids (A ++ B) = ids A ++ ids B := by simp [ids]
theorem fndN_none (s : ByteArray) : ∀ (M : List Rec) (n : Nat), s ∉ ids M → fndN s n M = -1
  | [], _, _ => rfl
  | r :: t, n, h => by
    have h1 : ¬ r.s = s := fun e => h (by simp [ids, e])
    have h2 : s ∉ ids t := fun e => h (by simp only [ids, List.map_cons, List.mem_cons]; exact .inr e)
    show (if r.s = s then (n : Int) else fndN s (n + 1) t) = -1
    rw [if_neg h1]
    exact fndN_none s t (n + 1) h2
theorem fndN_last (s : ByteArray) (r : Rec) (hr : r.s = s) : ∀ (M : List Rec) (n : Nat), s ∉ ids M → fndN s n (M ++ [r]) = (n : Int) + M.length
  | [], n, _ => by
    show (if r.s = s then (n : Int) else _) = _
    rw [if_pos hr]
    simp
  | x :: t, n, h => by
    have h1 : ¬ x.s = s := fun e => h (by simp [ids, e])
    have h2 : s ∉ ids t := fun e => h (by simp only [ids, List.map_cons, List.mem_cons]; exact .inr e)
    show (if x.s = s then (n : Int) else fndN s (n + 1) (t ++ [r])) = _
    rw [if_neg h1, fndN_last s r hr t (n + 1) h2, List.length_cons]
    omega
theorem grows_out (f : Int) (L M : List Rec) (r : Rec) (hc : catB f L M = true) (hM : M.length ≤ 30) (hr : feaR r = true) (hn : inB r.s (ids L ++ ids M) = false) : catB f L (M ++ [r]) = true ∧ fndB r.s (M ++ [r]) = (M.length : Int) := by
  have hn' : r.s ∉ ids L ++ ids M := fun h => by rw [(inB_iff _ _).2 h] at hn; cases hn
  have hn2 : r.s ∉ ids M := fun h => hn' (List.mem_append.2 (.inr h))
  obtain ⟨a, b, c, d, e, g⟩ := of_decide_eq_true hc
  refine ⟨decide_eq_true ⟨a, b, by rw [List.length_append, List.length_singleton]; omega, d, fun x hx => ?_, ?_⟩, ?_⟩
  · rw [List.mem_append, List.mem_singleton] at hx
    rcases hx with hx | rfl
    · exact e x hx
    · exact hr
  · rw [ids_app, ← List.append_assoc]
    rw [List.nodup_append]
    refine ⟨g, by simp [ids], fun x hx y hy => ?_⟩
    intro exy
    subst exy
    simp only [ids, List.map_cons, List.map_nil, List.mem_singleton] at hy
    subst hy
    exact hn' hx
  · unfold fndB
    rw [fndN_last r.s r rfl M 0 hn2]
    simp
theorem grows_in (f : Int) (L M : List Rec) (r : Rec) (hn : inB r.s (ids L ++ ids M) = true) : catB f L (M ++ [r]) = false := by
  have hn' := (inB_iff _ _).1 hn
  unfold catB
  rw [decide_eq_false_iff_not]
  intro ⟨_, _, _, _, _, g⟩
  rw [ids_app, ← List.append_assoc, List.nodup_append] at g
  exact g.2.2 _ hn' r.s (by simp [ids]) rfl
theorem cut_at (M : List Rec) (k : Nat) (hk : k < M.length) : M = M.take k ++ M[k]! :: M.drop (k + 1) := by
  have e : M[k]! = M[k] := by rw [List.getElem!_eq_getElem?_getD, List.getElem?_eq_getElem hk]; rfl
  rw [e, ← List.drop_eq_getElem_cons hk, List.take_append_drop]
theorem falls (f : Int) (L M : List Rec) (k : Nat) (hk : k < M.length) (hc : catB f L M = true) : catB f L (M.take k ++ M.drop (k + 1)) = true ∧ fndB (M[k]!).s (M.take k ++ M.drop (k + 1)) = -1 := by
  obtain ⟨a, b, c, d, e, g⟩ := of_decide_eq_true hc
  have hcut := cut_at M k hk
  have hsub : (M.take k ++ M.drop (k + 1)).Sublist M := by
    have h := (List.Sublist.refl (M.take k)).append (List.sublist_cons_self M[k]! (M.drop (k + 1)))
    rwa [← hcut] at h
  have hids : ids M = ids (M.take k) ++ (M[k]!).s :: ids (M.drop (k + 1)) := by
    have := congrArg ids hcut
    rw [ids_app] at this
    exact this
  refine ⟨decide_eq_true ⟨a, b, Nat.le_trans hsub.length_le c, d, fun x hx => e x (hsub.subset hx), ?_⟩, ?_⟩
  · exact g.sublist ((List.Sublist.refl _).append (hsub.map _))
  · unfold fndB
    apply fndN_none
    rw [ids_app]
    have g2 : (ids M).Nodup := (List.nodup_append.1 g).2.1
    rw [hids] at g2
    have g3 := List.nodup_append.1 g2
    intro hm
    rw [List.mem_append] at hm
    rcases hm with hm | hm
    · exact g3.2.2 _ hm _ (List.mem_cons_self) rfl
    · exact (List.nodup_cons.1 g3.2.1).1 hm
theorem inB_snoc (s x : ByteArray) (l : List ByteArray) : inB s (l ++ [x]) = (inB s l || decide (x = s)) := by unfold inB; simp
theorem take_id (L M : List Rec) (i : Nat) (h : i < L.length + M.length) : (ids L ++ ids M).take (i + 1) = (ids L ++ ids M).take i ++ [idAt L M i] := by
  have hx : (ids L ++ ids M)[i]? = some (idAt L M i) := by
    unfold idAt ids
    by_cases hi : i < L.length
    · rw [if_pos hi, List.getElem?_append_left (by simpa using hi), List.getElem?_map, List.getElem?_eq_getElem hi, List.getElem!_eq_getElem?_getD, List.getElem?_eq_getElem hi]; rfl
    · have h2 : i - L.length < M.length := by omega
      rw [if_neg hi, List.getElem?_append_right (by simpa using Nat.le_of_not_lt hi), List.length_map, List.getElem?_map, List.getElem?_eq_getElem h2, List.getElem!_eq_getElem?_getD, List.getElem?_eq_getElem h2]; rfl
  rw [List.take_add_one, hx]
  rfl
end Go.Proofs.Ythhaicledbcnmaa

/- Contract: catalogue.Find. -/
import Derived.Test.YthhaicledbcnmaaCat2
import Derived.OneCell
set_option linter.unusedSimpArgs false
set_option linter.unusedVariables false
set_option linter.unusedSectionVars false
namespace Go.Proofs.Ythhaicledbcnmaa
open Go.ChangeShapes Go.WideShapes Go.ChangeAt Go.RowKit
set_option maxHeartbeats 2000000
set_option maxRecDepth 20000

theorem str_eq (t s : ByteArray) : (t.toList == s.toList) = decide (t = s) := by
  rw [Bool.eq_iff_iff, beq_iff_eq, decide_eq_true_eq, ByteArray.toList_eq, ByteArray.toList_eq]
  constructor
  · intro h
    exact key_inj t s (by rw [h])
  · intro h
    rw [h]
theorem hit_of (r : Rec) (s : ByteArray) (b : Nat) (w : World) (hb : w.cell? ⟨b, 0, none⟩ = some (.string s)) :
    Calls Try.prog 25 #[r.val, .pointer (some ⟨b, 0, none⟩)] w fun e w' => e = .returned (.bool (decide (r.s = s))) ∧ Kept w w' := by
  obtain ⟨t, xa, xb, xk, xm, xd, xo, xw, xc⟩ := r
  show Calls Try.prog 25 #[.agg #[.string t, .int .i64 xa, .int .i64 xb, .int .i64 xk, .int .i64 xm, .int .i64 xd, .int .i64 xo, .int .i64 xw, .int .i64 xc], .pointer (some ⟨b, 0, none⟩)] w fun e w' => e = .returned (.bool (decide (t = s))) ∧ Kept w w'
  have hlt := lt_cellL hb
  go_enter Try.func25, Try.ntmps25
  go_wp2
  go_ret
  exact ⟨ret_bool (str_eq t s), (by repeat (first | with_reducible exact Kept.refl _ | with_reducible assumption | with_reducible refine Kept.drew ?_ | with_reducible refine Kept.drewN ?_ _ | with_reducible refine Kept.alloc ?_ _ | (with_reducible refine Kept.setCell ?_ (by first | exact Nat.le_refl _ | omega | (simp; done) | (simp; omega)) _) | (with_reducible refine Kept.trans ?_ (by with_reducible assumption))))⟩
theorem fnd_snoc (s : ByteArray) (M : List Rec) (n j : Nat) (hj : j < M.length) (h : ∀ i, i < j → (M[i]!).s ≠ s) (hs : (M[j]!).s = s) : fndN s n M = ((n + j : Nat) : Int) := by
  induction M generalizing n j with
  | nil => simp at hj
  | cons r t ih =>
    unfold fndN
    cases j with
    | zero =>
      rw [if_pos (by simpa using hs)]
      simp
    | succ j =>
      rw [if_neg (by have := h 0 (by omega); simpa using this)]
      rw [ih (n + 1) j (by simpa using hj) (fun i hi => by have := h (i + 1) (by omega); simpa using this) (by simpa using hs)]
      congr 1
      omega
theorem fnd_none (s : ByteArray) (M : List Rec) (n : Nat) (h : ∀ i, i < M.length → (M[i]!).s ≠ s) : fndN s n M = -1 := by
  induction M generalizing n with
  | nil => rfl
  | cons r t ih =>
    unfold fndN
    rw [if_neg (by have := h 0 (by simp); simpa using this)]
    exact ih (n + 1) (fun i hi => by have := h (i + 1) (by simp; omega); simpa using this)
theorem IFunc_any (s : ByteArray) (M : List Rec) (o : Option Addr) (q bs : Nat) (w : World) (hM : IsRecs w o M) (hb : w.cell? ⟨bs, 0, none⟩ = some (.string s)) (hl : M.length ≤ 4611686018427387904) :
    Calls Try.prog 24 #[.slice o M.length q, .func (.func 25) #[] #[.pointer (some ⟨bs, 0, none⟩)]] w fun e w' => e = .returned (.int .i64 (fndB s M)) ∧ Kept w w' := by
  have KH := Lib.hid (fun r w h => hit_of r s bs w h)
  have HM := Lib.hid hM
  have HB := Lib.hid hb
  have HS := Lib.hid (fun j hj h hs => fnd_snoc s M 0 j hj h hs)
  have HN := Lib.hid (fnd_none s M 0)
  clear hM hb
  go_enter Try.func24, Try.ntmps24
  go_wp2
  go_loopw [8] (fun i wr => ∃ j : Nat, j ≤ M.length ∧ i = .int .i64 j ∧ Kept w wr ∧ Hid (∀ i, i < j → (M[i]!).s ≠ s)) (fun i _ => (M.length - intOf i).toNat)
  case atStart => exact ⟨0, by omega, rfl, (by repeat (first | with_reducible exact Kept.refl _ | with_reducible assumption | with_reducible refine Kept.drew ?_ | with_reducible refine Kept.drewN ?_ _ | with_reducible refine Kept.alloc ?_ _ | (with_reducible refine Kept.setCell ?_ (by first | exact Nat.le_refl _ | omega | (simp; done) | (simp; omega)) _) | (with_reducible refine Kept.trans ?_ (by with_reducible assumption)))), fun i h => absurd h (Nat.not_lt_zero _)⟩
  case round =>
    obtain ⟨j, hj, rfl, hkw, HI⟩ := hrel
    by_cases hlt : j < M.length
    · obtain ⟨b, off, rfl, c0, c1, c2, c3, c4, c5, c6, c7, c8⟩ := (HM.out.kept hkw).cells j hlt
      have hbb := (hkw.cell _ _ (lt_cellL HB.out)).trans HB.out
      have HH := Lib.hid (KH.out M[j]! wr hbb)
      have hv : (M[j]!).val = .agg #[.string (M[j]!).s, .int .i64 (M[j]!).a, .int .i64 (M[j]!).b, .int .i64 (M[j]!).k, .int .i64 (M[j]!).m, .int .i64 (M[j]!).d, .int .i64 (M[j]!).o, .int .i64 (M[j]!).wd, .int .i64 (M[j]!).c] := rfl
      rw [hv] at HH
      have HF : Hid (decide ((M[j]!).s = s) = true → fndB s M = (j : Int)) := (show _ → _ from fun h => by
        have := HS.out j hlt HI.out (of_decide_eq_true h)
        rw [Nat.zero_add] at this
        exact this)
      have HQ : Hid (decide ((M[j]!).s = s) = false → ∀ i, i < j + 1 → (M[i]!).s ≠ s) := (show _ → _ from fun h i hi => by
        by_cases e : i = j
        · subst e; exact of_decide_eq_false h
        · exact HI.out i (by omega))
      clear hv HI hbb
      generalize decide ((M[j]!).s = s) = hit at *
      generalize M[j]! = r at *
      obtain ⟨t, xa, xb, xk, xm, xd, xo, xw, xc⟩ := r
      dsimp only at c0 c1 c2 c3 c4 c5 c6 c7 c8 HH
      go_wp2_with fail
      go_at_call 25
      (with_reducible refine HH.out.mono ?_)
      rintro e w2 ⟨rfl, hk2⟩
      have hkw2 := hkw.trans hk2
      clear c0 c1 c2 c3 c4 c5 c6 c7 c8 HH
      cases hit with
      | true =>
        have HR := Lib.hid (HF.out rfl)
        clear HF HQ
        go_wp2
        go_ret
        exact ⟨by rw [HR.out]; rfl, hkw2⟩
      | false =>
        have HR := Lib.hid (HQ.out rfl)
        clear HF HQ
        go_wp2
        go_roundw
        case rel => exact ⟨j + 1, by omega, by go_num, hkw2, HR⟩
        case measure => simp [intOf]; omega
    · obtain rfl : j = M.length := by omega
      have HR : Hid (fndB s M = -1) := (show _ = _ from HN.out HI.out)
      go_wp2
      go_ret
      exact ⟨by rw [HR.out]; rfl, hkw⟩
theorem Find_any (f : Int) (o o' : Option Addr) (q q' : Nat) (L M : List Rec) (s : ByteArray) (w : World) (hM : IsRecs w o' M) (hl : M.length ≤ 4611686018427387904) :
    Calls Try.prog 16 #[.agg #[.int .i64 f, .slice o L.length q, .slice o' M.length q'], .string s] w fun e w' => e = .returned (.int .i64 (fndB s M)) ∧ Kept w w' := by
  have K0 := ((Kept.refl w).alloc (.cells #[.int .i64 f, .slice o L.length q, .slice o' M.length q'] 25)).alloc (.cells #[.string s] 9)
  have hb := cell_here (w.alloc (.cells #[.int .i64 f, .slice o L.length q, .slice o' M.length q'] 25)) #[.string s] 9 0
  rw [World.size_alloc] at hb
  have KF := Lib.hid (IFunc_any s M o' q' (w.heap.size + 1) _ (hM.kept K0) hb hl)
  generalize fndB s M = r at *
  clear hM hb hl K0
  go_enter Try.func16, Try.ntmps16
  go_wp2_with fail
  go_at_call 24
  refine KF.out.mono ?_
  rintro e w2 ⟨rfl, hk2⟩
  go_wp2
  go_ret
  exact ⟨rfl, (by repeat (first | with_reducible exact Kept.refl _ | with_reducible assumption | with_reducible refine Kept.drew ?_ | with_reducible refine Kept.drewN ?_ _ | with_reducible refine Kept.alloc ?_ _ | (with_reducible refine Kept.setCell ?_ (by first | exact Nat.le_refl _ | omega | (simp; done) | (simp; omega)) _) | (with_reducible refine Kept.trans ?_ (by with_reducible assumption))))⟩
end Go.Proofs.Ythhaicledbcnmaa

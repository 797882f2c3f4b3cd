/- Contract: package label: days (the iterator). -/
import Derived.RangeFuncNested
import Derived.RangeFuncBound
import Derived.RangeFuncCalls
import Derived.RangeFuncLeaves
import Derived.RangeFuncMany
import Derived.RangeFuncBox
import Derived.Maps.AppendAt
import Derived.Shelf.Abstract
import Derived.Shelf.RegionOpen
import Derived.WalkKit
import Derived.OwnWalkIn
import Derived.TacticsInMore
import Derived.LoopNIn
import Derived.LoopIn
import Derived.Test.YtdmgnanpjkimlaaDoorLabB
import Derived.Outline
set_option linter.unusedSimpArgs false
set_option linter.unusedVariables false
set_option linter.unusedSectionVars false
namespace Go.Proofs.YtdmgnanpjkimlaaDoor
open Go.ChangeShapes Go.WideShapes Go.ChangeAt Go.RowKit Go.Shelf
set_option maxHeartbeats 800000
attribute [local go_sem] Oper.semAt_some

abbrev enc2 (p : Int × Int) : Array Value := #[.int .i64 p.1, .int .i64 p.2]
/-- The days of a common year, in order. -/
def runD (m : Int) : Nat → List (Int × Int)
  | 0 => []
  | k + 1 => runD m k ++ [(m, (k : Int) + 1)]
def dayList : List (Int × Int) := runD 1 31 ++ (runD 2 28 ++ (runD 3 31 ++ (runD 4 30 ++ (runD 5 31 ++ (runD 6 30 ++ (runD 7 31 ++ (runD 8 31 ++ (runD 9 30 ++ (runD 10 31 ++ (runD 11 30 ++ runD 12 31))))))))))
theorem dayList_len : dayList.length = 365 := by decide +kernel
theorem dayList_at : ∀ m : Fin 13, ∀ d : Fin 32, Ex (m.val : Int) (d.val : Int) → dayList[(dayN (m.val : Int) (d.val : Int)).toNat]? = some ((m.val : Int), (d.val : Int)) := by decide +kernel
theorem dayList_get (m d : Int) (h : Ex m d) : dayList[(dayN m d).toNat]? = some (m, d) := by
  obtain ⟨h1, h2, h3, h4⟩ := id h
  have hb := mlen_bounds false m h1 h2
  have := dayList_at ⟨m.toNat, by omega⟩ ⟨d.toNat, by omega⟩
  simp only [Int.toNat_of_nonneg (show 0 ≤ m by omega), Int.toNat_of_nonneg (show 0 ≤ d by omega)] at this
  exact this h
theorem dayList_take (m d : Int) (h : Ex m d) : dayList.take ((dayN m d).toNat + 1) = dayList.take (dayN m d).toNat ++ [(m, d)] := by
  rw [List.take_add_one, dayList_get m d h]
  rfl
abbrev lenA : Value := .agg #[.int .i64 (mlen false 1), .int .i64 (mlen false 2), .int .i64 (mlen false 3), .int .i64 (mlen false 4), .int .i64 (mlen false 5), .int .i64 (mlen false 6), .int .i64 (mlen false 7), .int .i64 (mlen false 8), .int .i64 (mlen false 9), .int .i64 (mlen false 10), .int .i64 (mlen false 11), .int .i64 (mlen false 12)]
theorem lenA_at (W : World) (k : Int) (h0 : 0 ≤ k) (h1 : k < 12) : (Instr.index 78 lenA (.int .i64 k)).run Tryd.prog W = .ok (.int .i64 (mlen false (k + 1))) W := by
  rcases (show k = 0 ∨ k = 1 ∨ k = 2 ∨ k = 3 ∨ k = 4 ∨ k = 5 ∨ k = 6 ∨ k = 7 ∨ k = 8 ∨ k = 9 ∨ k = 10 ∨ k = 11 by omega) with rfl | rfl | rfl | rfl | rfl | rfl | rfl | rfl | rfl | rfl | rfl | rfl
  all_goals kernel_rfl
set_option maxRecDepth 100000 in
theorem days_stops (Kp : World → World → Prop) (F : Fence) (n : Nat) (h5 : F.fn 62) (hro : F.round = none) (hn : 1 ≤ n) (w : World) (hT : LTab w) :
    SeqStopsK F n Tryd.prog 62 #[] enc2 Kp (fun xs => xs = dayList) (fun pre => pre <+: dayList) 365 w := fun l J Jx W hW _ _ hY h0 => by
  have hc : ∀ m : Int, 1 ≤ m → m ≤ 12 → W.cell? ⟨0, m.toNat - 1, none⟩ = some (.int .i64 (mlen false m)) := fun m a b =>
    (hW.cell (p := ⟨0, m.toNat - 1, none⟩) (lt_cellL (hT.1 m a b))).trans (hT.1 m a b)
  have q0 := hc 1 (by omega) (by omega)
  have q1 := hc 2 (by omega) (by omega)
  have q2 := hc 3 (by omega) (by omega)
  have q3 := hc 4 (by omega) (by omega)
  have q4 := hc 5 (by omega) (by omega)
  have q5 := hc 6 (by omega) (by omega)
  have q6 := hc 7 (by omega) (by omega)
  have q7 := hc 8 (by omega) (by omega)
  have q8 := hc 9 (by omega) (by omega)
  have q9 := hc 10 (by omega) (by omega)
  have q10 := hc 11 (by omega) (by omega)
  have q11 := hc 12 (by omega) (by omega)
  simp only [show (1 : Int).toNat - 1 = 0 from rfl, show (2 : Int).toNat - 1 = 1 from rfl, show (3 : Int).toNat - 1 = 2 from rfl, show (4 : Int).toNat - 1 = 3 from rfl, show (5 : Int).toNat - 1 = 4 from rfl, show (6 : Int).toNat - 1 = 5 from rfl, show (7 : Int).toNat - 1 = 6 from rfl, show (8 : Int).toNat - 1 = 7 from rfl, show (9 : Int).toNat - 1 = 8 from rfl, show (10 : Int).toNat - 1 = 9 from rfl, show (11 : Int).toNat - 1 = 10 from rfl, show (12 : Int).toNat - 1 = 11 from rfl] at q0 q1 q2 q3 q4 q5 q6 q7 q8 q9 q10 q11
  clear hc hT
  refine callsIn_of_wp Tryd.func62 rfl h5 ?_ hro
  simp only [Tryd.ntmps62, List.size_toArray, List.length_cons, List.length_nil, Nat.reduceAdd, Nat.reduceSub, Array.replicate_succ, Array.replicate_zero, List.push_toArray, List.append_toArray, List.nil_append, List.cons_append]
  gi_wp2
  have HI : Hid (∀ (W : World) (k : Int), 0 ≤ k → k < 12 → (Instr.index 78 lenA (.int .i64 k)).run Tryd.prog W = .ok (.int .i64 (mlen false (k + 1))) W) := lenA_at
  clear q0 q1 q2 q3 q4 q5 q6 q7 q8 q9 q10 q11 hW
  unfold lenA at HI
  generalize Value.agg #[.int .i64 (mlen false 1), .int .i64 (mlen false 2), .int .i64 (mlen false 3), .int .i64 (mlen false 4), .int .i64 (mlen false 5), .int .i64 (mlen false 6), .int .i64 (mlen false 7), .int .i64 (mlen false 8), .int .i64 (mlen false 9), .int .i64 (mlen false 10), .int .i64 (mlen false 11), .int .i64 (mlen false 12)] = arr at *
  gi_loopw [6] (fun i wr => ∃ k : Int, 0 ≤ k ∧ k ≤ 12 ∧ i = .int .i64 k ∧ J (dayList.take (cum false (k + 1)).toNat) wr) (fun i _ => (12 - intOf i).toNat)
  case atStart => exact ⟨0, by omega, by omega, rfl, h0⟩
  case round =>
    obtain ⟨k, k0, k1, rfl, hJ⟩ := hrel
    by_cases hk : k < 12
    · have hx := fun W => HI.out W k k0 hk
      have KM := Lib.hid (mlen_bounds false (k + 1) (by omega) (by omega))
      have KB := Lib.hid (cum_bounds false (k + 1) (by omega) (by omega))
      have KS := Lib.hid (cum_succ false (k + 1) (by omega) (by omega))
      gi_wp2
      gi_loopw [11] (fun i wr => ∃ c : Int, 0 ≤ c ∧ c ≤ mlen false (k + 1) ∧ i = .int .i64 c ∧ J (dayList.take (cum false (k + 1) + c).toNat) wr) (fun i _ => (40 - intOf i).toNat)
      case atStart => exact ⟨0, by omega, by have := KM.out; omega, rfl, by rw [show cum false (k + 1) + 0 = cum false (k + 1) from by omega]; exact hJ⟩
      case round =>
        obtain ⟨c, c0, c1, rfl, hJc⟩ := hrel
        have hM := KM.out
        by_cases hc : c < mlen false (k + 1)
        · have hE : Ex (k + 1) (c + 1) := ⟨by omega, by omega, by omega, by omega⟩
          have hT2 := dayList_take (k + 1) (c + 1) hE
          have hN := dayN_bounds (k + 1) (c + 1) hE
          have hD : dayN (k + 1) (c + 1) = cum false (k + 1) + c := by unfold dayN; omega
          rw [hD] at hT2 hN
          have hn1 : (cum false (k + 1) + (c + 1)).toNat = (cum false (k + 1) + c).toNat + 1 := by omega
          obtain ⟨f1, t1, a1, b1, hy1, hR1⟩ := hY (dayList.take (cum false (k + 1) + c).toNat) (k + 1, c + 1) wr hJc (by rw [List.length_take]; omega)
          dsimp only [enc2] at hy1
          have HH := Lib.hid (And.intro hT2 hn1)
          clear hT2 hn1 hD hN hE
          gi_wp2
          refine hR1.mono ?_
          rintro e W1 (⟨rfl, hJ1, _⟩ | ⟨rfl, hx1⟩)
          · gi_wp2
            go_roundw
            case rel => exact ⟨c + 1, by omega, by omega, by go_num, by rw [HH.out.2, HH.out.1]; exact hJ1⟩
            case measure => simp [intOf]; omega
          · gi_wp2
            refine bodyPost_ret (results_none rfl _ _ _) rfl ?_
            exact ⟨⟨_, rfl⟩, .inr ⟨_, by rw [← HH.out.1]; exact List.take_prefix _ _, hx1⟩⟩
        · obtain rfl : c = mlen false (k + 1) := by omega
          rw [← KS.out] at hJc
          gi_wp2
          go_roundw
          case rel => exact ⟨k + 1, by omega, by omega, by go_num, hJc⟩
          case measure => simp [intOf]; omega
    · obtain rfl : k = 12 := by omega
      rw [show (12 : Int) + 1 = 13 from rfl, List.take_of_length_le (by rw [dayList_len]; decide)] at hJ
      gi_wp2
      go_end0
      exact ⟨⟨_, rfl⟩, .inl (by first | exact hJ | exact ⟨_, rfl, hJ⟩)⟩
end Go.Proofs.YtdmgnanpjkimlaaDoor

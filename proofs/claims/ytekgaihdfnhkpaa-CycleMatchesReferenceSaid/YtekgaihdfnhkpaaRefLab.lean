/- Contracts: reference 08: Exists, starts, Position, Bears, On, Numbers. -/
import Derived.Test.YtekgaihdfnhkpaaLabB
import Derived.Test.YtekgaihdfnhkpaaRefL
import Derived.Outline
set_option linter.unusedSimpArgs false
set_option linter.unusedVariables false
set_option linter.unusedSectionVars false
namespace Go.Proofs.Ytekgaihdfnhkpaa
open Go.ChangeShapes Go.WideShapes Go.ChangeAt Go.RowKit
set_option maxHeartbeats 800000

def startsL : List Int := [101, 131, 301, 331, 429, 529, 627, 727, 825, 924, 1023, 1122, 1221]
/-- The lunations that have begun before the day n, and the position that the loop of the reference holds ahead of it. -/
def begun (n : Int) : Nat := if n = 0 then 0 else (lun (n - 1) + 1).toNat
def ahead (n : Int) : Int := if n = 0 then 0 else psn (n - 1)
def stepOk (m d : Int) : Bool := decide (Ex m d →
  (begun (dayN m d) < 13 ∧ startsL[begun (dayN m d)]! = 100 * m + d ∧ begun (dayN m d + 1) = begun (dayN m d) + 1 ∧ ahead (dayN m d + 1) = 0) ∨
  ((begun (dayN m d) < 13 → startsL[begun (dayN m d)]! ≠ 100 * m + d) ∧ begun (dayN m d + 1) = begun (dayN m d) ∧ ahead (dayN m d + 1) = ahead (dayN m d) + 1))
theorem step_all : ∀ m : Fin 13, ∀ d : Fin 32, stepOk (m.val : Int) (d.val : Int) = true := by decide +kernel
theorem step_ok (m d : Int) (h : Ex m d) :
  (begun (dayN m d) < 13 ∧ startsL[begun (dayN m d)]! = 100 * m + d ∧ begun (dayN m d + 1) = begun (dayN m d) + 1 ∧ ahead (dayN m d + 1) = 0) ∨
  ((begun (dayN m d) < 13 → startsL[begun (dayN m d)]! ≠ 100 * m + d) ∧ begun (dayN m d + 1) = begun (dayN m d) ∧ ahead (dayN m d + 1) = ahead (dayN m d) + 1) := by
  obtain ⟨h1, h2, h3, h4⟩ := id h
  have hb := mlen_bounds false m h1 h2
  have := step_all ⟨m.toNat, by omega⟩ ⟨d.toNat, by omega⟩
  simp only [Int.toNat_of_nonneg (show 0 ≤ m by omega), Int.toNat_of_nonneg (show 0 ≤ d by omega), stepOk] at this
  exact of_decide_eq_true this h
theorem begun_le (n : Int) (h : n ≤ 365) (h0 : 0 ≤ n) : begun n ≤ 13 ∧ 0 ≤ ahead n ∧ ahead n ≤ 29 := by
  unfold begun ahead
  by_cases e : n = 0
  · simp [e]
  · rw [if_neg e, if_neg e]
    unfold lun psn
    by_cases h1 : n - 1 < 354
    · rw [if_pos h1, if_pos h1]
      split <;> omega
    · rw [if_neg h1, if_neg h1]
      omega
theorem begun_fin (n : Int) (h0 : 0 ≤ n) (h : n ≤ 364) : (begun (n + 1) : Int) - 1 = lun n ∧ ahead (n + 1) = psn n := by
  have hl : 0 ≤ lun n := by
    unfold lun
    by_cases h1 : n < 354
    · rw [if_pos h1]
      split <;> omega
    · rw [if_neg h1]; omega
  unfold begun ahead
  rw [if_neg (by omega), if_neg (by omega), show n + 1 - 1 = n from by omega]
  exact ⟨by omega, rfl⟩
theorem rExists_of (m d : Int) (w : World) :
    Calls Try.prog 68 #[.int .i64 m, .int .i64 d] w fun e w' => e = .returned (.bool (decide (Ex m d))) ∧ w = w' := by
  have K := Lib.hid (rLen_any false m w)
  have hm : Ex m d ↔ 1 ≤ d ∧ d ≤ mlen false m := by
    unfold Ex
    by_cases h : m < 1 ∨ 12 < m
    · rw [mlen_out _ _ h]; omega
    · omega
  have hr : -100 ≤ mlen false m ∧ mlen false m ≤ 100 := by
    by_cases h : m < 1 ∨ 12 < m
    · rw [mlen_out _ _ h]; omega
    · have := mlen_bounds false m (by omega) (by omega); omega
  have hd : decide (Ex m d) = (decide (1 ≤ d) && decide (d ≤ mlen false m)) := by rw [← Bool.decide_and]; exact decide_eq_decide.mpr hm
  rw [hd]
  clear hd hm
  generalize mlen false m = n at *
  by_cases h1 : 1 ≤ d
  · by_cases h2 : d ≤ n
    · go_enter Try.func68, Try.ntmps68
      go_wp2_with (go_at_call 48; refine (K.out).mono ?_; rintro e w1 ⟨rfl, rfl⟩)
      go_ret
      exact ⟨by simp [h1, h2], rfl⟩
    · go_enter Try.func68, Try.ntmps68
      go_wp2_with (go_at_call 48; refine (K.out).mono ?_; rintro e w1 ⟨rfl, rfl⟩)
      go_ret
      exact ⟨by simp [h1, h2], rfl⟩
  · go_enter Try.func68, Try.ntmps68
    go_wp2
    go_ret
    exact ⟨by simp [show ¬ 1 ≤ d from by omega], rfl⟩
theorem rStarts_of (w : World) :
    Calls Try.prog 69 #[] w fun e w' => e = .returned (.slice (some ⟨w.heap.size, 0, none⟩) 13 13) ∧ w' = w.alloc (.cells (startsL.map (Value.int .i64)).toArray 3) := by
  go_enter Try.func69, Try.ntmps69
  go_wp2
  go_ret
  exact ⟨rfl, rfl⟩
theorem rPosition_no (m d : Int) (w : World) (h : ¬ Ex m d) :
    Calls Try.prog 65 #[.int .i64 m, .int .i64 d] w fun e w' => e = .returned (.tuple #[.int .i64 0, .int .i64 0, .bool false]) ∧ Kept w w' := by
  have KE := Lib.hid (rExists_of m d w)
  rw [decide_eq_false h] at KE
  clear h
  go_enter Try.func65, Try.ntmps65
  go_wp2_with (go_at_call 68; refine (KE.out).mono ?_; rintro e w1 ⟨rfl, rfl⟩)
  go_ret3
  exact ⟨rfl, Kept.refl _⟩
theorem rPosition_ok (m d : Int) (w : World) (h : Ex m d) :
    Calls Try.prog 65 #[.int .i64 m, .int .i64 d] w fun e w' => e = .returned (.tuple #[.int .i64 (lun (dayN m d)), .int .i64 (psn (dayN m d)), .bool true]) ∧ Kept w w' := by
  have KE := Lib.hid (rExists_of m d w)
  rw [decide_eq_true h] at KE
  have KS := Lib.hid (rStarts_of w)
  have KL := Lib.hid (fun b m w => rLen_any b m w)
  have HL := Lib.hid (lies_new w startsL 3)
  have K0 : Kept w (w.alloc (.cells (startsL.map (Value.int .i64)).toArray 3)) := (by repeat (first | with_reducible exact Kept.refl _ | with_reducible assumption | with_reducible refine Kept.drew ?_ | with_reducible refine Kept.drewN ?_ _ | with_reducible refine Kept.alloc ?_ _ | (with_reducible refine Kept.setCell ?_ (by first | exact Nat.le_refl _ | omega | (simp; done) | (simp; omega)) _) | (with_reducible refine Kept.trans ?_ (by with_reducible assumption))))
  obtain ⟨h1, h2, h3, h4⟩ := id h
  have KH := Lib.hid h
  clear h
  go_enter Try.func65, Try.ntmps65
  go_wp2_with first | (go_at_call 68; refine (KE.out).mono ?_; rintro e w1 ⟨rfl, rfl⟩) | (go_at_call 69; refine (KS.out).mono ?_; rintro e w1 ⟨rfl, rfl⟩)
  generalize (w.alloc (.cells (startsL.map (Value.int .i64)).toArray 3)) = w1 at *
  go_loop [8, 9, 10] (fun l p m1 => ∃ k : Int, 1 ≤ k ∧ k ≤ m ∧ m1 = .int .i64 k ∧ l = .int .i64 ((begun (cum false k) : Int) - 1) ∧ p = .int .i64 (ahead (cum false k))) (fun _ _ m1 => (13 - intOf m1).toNat)
  case atStart => exact ⟨1, by omega, by omega, rfl, rfl, rfl⟩
  case round =>
    obtain ⟨k, k1, k2, rfl, rfl, rfl⟩ := hrel
    have KB := Lib.hid (cum_bounds false k k1 (by omega))
    have KM := Lib.hid (mlen_bounds false k k1 (by omega))
    go_wp2
    go_loop [8, 9, 11] (fun l p d1 => ∃ c : Int, 1 ≤ c ∧ c ≤ mlen false k + 1 ∧ (k = m → c ≤ d) ∧ d1 = .int .i64 c ∧ l = .int .i64 ((begun (cum false k + c - 1) : Int) - 1) ∧ p = .int .i64 (ahead (cum false k + c - 1))) (fun _ _ d1 => (40 - intOf d1).toNat)
    case atStart => exact ⟨1, by omega, by have := KM.out; omega, fun _ => by omega, rfl, by rw [show cum false k + 1 - 1 = cum false k from by omega], by rw [show cum false k + 1 - 1 = cum false k from by omega]⟩
    case round =>
      obtain ⟨c, c1, c2, c3, rfl, rfl, rfl⟩ := hrel
      have hM := KM.out
      by_cases hc : c ≤ mlen false k
      · have hx : Ex k c := ⟨k1, by omega, c1, hc⟩
        have hst := step_ok k c hx
        have hn := dayN_bounds k c hx
        have hfin := begun_fin (dayN k c) hn.1 hn.2
        have hle := begun_le (dayN k c) (by omega) hn.1
        have hle' := begun_le (dayN k c + 1) (by omega) (by omega)
        have hdn : cum false k + c - 1 = dayN k c := rfl
        have hdn' : cum false k + (c + 1) - 1 = dayN k c + 1 := by unfold dayN; omega
        have HF := Lib.hid hfin
        have HD := Lib.hid hdn'
        rw [hdn]
        clear hdn hdn' hfin hx hn
        have hcell : begun (dayN k c) < 13 → w1.cell? ⟨w.heap.size, begun (dayN k c), none⟩ = some (.int .i64 startsL[begun (dayN k c)]!) := fun g => HL.out _ g
        generalize hbn : begun (dayN k c) = bn at *
        generalize hbn' : begun (dayN k c + 1) = bn' at *
        generalize han : ahead (dayN k c) = an at *
        generalize han' : ahead (dayN k c + 1) = an' at *
        generalize startsL[bn]! = sv at *
        have HE := Lib.hid (And.intro hbn' han')
        clear hbn hbn' han han'
        have hkm : k = m ∨ k < m := by omega
        rcases hst with ⟨s1, rfl, rfl, rfl⟩ | ⟨s1, rfl, rfl⟩
        · have hcell' := hcell s1
          clear hcell
          rcases hkm with rfl | hkm
          · have c4 := c3 rfl
            by_cases hcd : c = d
            · subst hcd
              go_wp2_with (go_at_call 48; refine (KL.out false k w1).mono ?_; rintro e w1 ⟨rfl, rfl⟩)
              go_ret3
              exact ⟨by rw [← HF.out.1, ← HF.out.2] <;> first | rfl | go_num | (simp; done), K0⟩
            · go_wp2_with (go_at_call 48; refine (KL.out false k w1).mono ?_; rintro e w1 ⟨rfl, rfl⟩)
              go_round
              case rel => exact ⟨c + 1, by omega, by omega, fun _ => by omega, rfl, by rw [HD.out, HE.out.1] <;> first | rfl | go_num | (simp; done), by rw [HD.out, HE.out.2]⟩
              case measure => simp [intOf]; omega
          · go_wp2_with (go_at_call 48; refine (KL.out false k w1).mono ?_; rintro e w1 ⟨rfl, rfl⟩)
            go_round
            case rel => exact ⟨c + 1, by omega, by omega, fun _ => by omega, rfl, by rw [HD.out, HE.out.1] <;> first | rfl | go_num | (simp; done), by rw [HD.out, HE.out.2]⟩
            case measure => simp [intOf]; omega
        · by_cases s0 : bn' < 13
          · have hcell' := hcell s0
            have s2 := s1 s0
            clear hcell s1
            rcases hkm with rfl | hkm
            · have c4 := c3 rfl
              by_cases hcd : c = d
              · subst hcd
                go_wp2_with (go_at_call 48; refine (KL.out false k w1).mono ?_; rintro e w1 ⟨rfl, rfl⟩)
                go_ret3
                exact ⟨by rw [← HF.out.1, ← HF.out.2] <;> first | rfl | go_num | (simp; done), K0⟩
              · go_wp2_with (go_at_call 48; refine (KL.out false k w1).mono ?_; rintro e w1 ⟨rfl, rfl⟩)
                go_round
                case rel => exact ⟨c + 1, by omega, by omega, fun _ => by omega, rfl, by rw [HD.out, HE.out.1] <;> first | rfl | go_num | (simp; done), by rw [HD.out, HE.out.2]⟩
                case measure => simp [intOf]; omega
            · go_wp2_with (go_at_call 48; refine (KL.out false k w1).mono ?_; rintro e w1 ⟨rfl, rfl⟩)
              go_round
              case rel => exact ⟨c + 1, by omega, by omega, fun _ => by omega, rfl, by rw [HD.out, HE.out.1] <;> first | rfl | go_num | (simp; done), by rw [HD.out, HE.out.2]⟩
              case measure => simp [intOf]; omega
          · clear hcell s1
            obtain rfl : bn' = 13 := by omega
            rcases hkm with rfl | hkm
            · have c4 := c3 rfl
              by_cases hcd : c = d
              · subst hcd
                go_wp2_with (go_at_call 48; refine (KL.out false k w1).mono ?_; rintro e w1 ⟨rfl, rfl⟩)
                go_ret3
                exact ⟨by rw [← HF.out.1, ← HF.out.2] <;> first | rfl | go_num | (simp; done), K0⟩
              · go_wp2_with (go_at_call 48; refine (KL.out false k w1).mono ?_; rintro e w1 ⟨rfl, rfl⟩)
                go_round
                case rel => exact ⟨c + 1, by omega, by omega, fun _ => by omega, rfl, by rw [HD.out, HE.out.1] <;> first | rfl | go_num | (simp; done), by rw [HD.out, HE.out.2]⟩
                case measure => simp [intOf]; omega
            · go_wp2_with (go_at_call 48; refine (KL.out false k w1).mono ?_; rintro e w1 ⟨rfl, rfl⟩)
              go_round
              case rel => exact ⟨c + 1, by omega, by omega, fun _ => by omega, rfl, by rw [HD.out, HE.out.1] <;> first | rfl | go_num | (simp; done), by rw [HD.out, HE.out.2]⟩
              case measure => simp [intOf]; omega
      · have hkm : k < m := by
          rcases (show k = m ∨ k < m by omega) with rfl | g
          · have := c3 rfl; omega
          · exact g
        obtain rfl : c = mlen false k + 1 := by omega
        have HS := Lib.hid (cum_succ false k k1 (by omega))
        have hsum : cum false k + (mlen false k + 1) - 1 = cum false (k + 1) := by rw [HS.out]; omega
        rw [hsum]
        clear hsum
        go_wp2_with (go_at_call 48; refine (KL.out false k w1).mono ?_; rintro e w1 ⟨rfl, rfl⟩)
        go_round
        case rel => exact ⟨k + 1, by omega, by omega, by go_num, rfl, rfl⟩
        case measure => simp [intOf]; omega
end Go.Proofs.Ytekgaihdfnhkpaa

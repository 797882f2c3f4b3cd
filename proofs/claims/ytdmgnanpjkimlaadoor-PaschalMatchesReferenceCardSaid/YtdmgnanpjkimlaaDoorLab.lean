/- Contracts: package label: Position, On, Bears. -/
import Derived.Test.YtdmgnanpjkimlaaDoorRefL
import Derived.Outline
set_option linter.unusedSimpArgs false
set_option linter.unusedVariables false
set_option linter.unusedSectionVars false
namespace Go.Proofs.YtdmgnanpjkimlaaDoor
open Go.ChangeShapes Go.WideShapes Go.ChangeAt Go.RowKit
set_option maxHeartbeats 800000

theorem lt_cellL {w : World} {k o : Nat} {v : Value} (h : w.cell? ⟨k, o, none⟩ = some v) : k < w.heap.size := by
  by_cases hk : k < w.heap.size
  · exact hk
  · have : w.heap[k]? = none := by simp; omega
    simp [World.cell?, this] at h

/-- The tables of label lie as the program's text lays them. -/
def LTab (w : World) : Prop := (∀ m : Int, 1 ≤ m → m ≤ 12 → w.cell? ⟨0, m.toNat - 1, none⟩ = some (.int .i64 (mlen false m))) ∧
  (∀ l : Int, 0 ≤ l → l < 12 → w.cell? ⟨1, l.toNat, none⟩ = some (.int .i64 (30 - l % 2)))
theorem LTab.kept {w w' : World} (h : LTab w) (k : Kept w w') : LTab w' :=
  ⟨fun m h1 h2 => (k.cell _ _ (lt_cellL (h.1 m h1 h2))).trans (h.1 m h1 h2), fun m h1 h2 => (k.cell _ _ (lt_cellL (h.2 m h1 h2))).trans (h.2 m h1 h2)⟩

/-- A day of a common year. -/
def Ex (m d : Int) : Prop := 1 ≤ m ∧ m ≤ 12 ∧ 1 ≤ d ∧ d ≤ mlen false m
def dayN (m d : Int) : Int := cum false m + d - 1
def lun (p : Int) : Int := if p < 354 then 2 * (p / 59) + (if p % 59 < 30 then 0 else 1) else 12
def psn (p : Int) : Int := if p < 354 then (if p % 59 < 30 then p % 59 else p % 59 - 30) else p - 354
def spanSum (l : Int) : Int := 59 * (l / 2) + 30 * (l % 2)
theorem dayN_bounds (m d : Int) (h : Ex m d) : 0 ≤ dayN m d ∧ dayN m d ≤ 364 := by
  obtain ⟨h1, h2, h3, h4⟩ := h
  have a := cum_mono false m 13 h1 (by omega) (by omega)
  have b := cum_bounds false m h1 (by omega)
  have c : cum false 13 = 365 := by decide
  unfold dayN
  omega
theorem lun_end (p l : Int) (h0 : 0 ≤ l) (h1 : l ≤ 12) (h2 : spanSum l ≤ p) (h3 : p ≤ 364) (h4 : l = 12 ∨ p - spanSum l < 30 - l % 2) : l = lun p ∧ p - spanSum l = psn p := by
  unfold lun psn
  unfold spanSum at *
  rcases (show l % 2 = 0 ∨ l % 2 = 1 by omega) with e | e
  · obtain ⟨q, rfl⟩ : ∃ q, l = 2 * q := ⟨l / 2, by omega⟩
    have e1 : 2 * q / 2 = q := by omega
    rw [e, e1] at h2 h4 ⊢
    by_cases hp : p < 354
    · have hq : p / 59 = q := by omega
      have hr : p % 59 = p - 59 * q := by omega
      rw [if_pos hp, if_pos hp, hq, hr, if_pos (by omega), if_pos (by omega)]
      omega
    · rw [if_neg hp, if_neg hp]
      omega
  · obtain ⟨q, rfl⟩ : ∃ q, l = 2 * q + 1 := ⟨l / 2, by omega⟩
    have e1 : (2 * q + 1) / 2 = q := by omega
    rw [e, e1] at h2 h4 ⊢
    by_cases hp : p < 354
    · have hq : p / 59 = q := by omega
      have hr : p % 59 = p - 59 * q := by omega
      rw [if_pos hp, if_pos hp, hq, hr, if_neg (by omega), if_neg (by omega)]
      omega
    · omega

theorem sl12 (w : World) (a : Addr) (k : IntKind) (h : Int) (h0 : 0 ≤ h) (h1 : h ≤ 12) :
    (Instr.sliceAt 78 (.pointer (some a)) none (some (.int k h)) none).run Tryd.prog w = .ok (.slice (some a) h.toNat 12) w := by
  have hl : Program.arrayLen Tryd.prog 78 = 12 := by kernel_rfl
  rw [run_sliceAt_array_h w _ a (by kernel_rfl) k h h0 (by rw [hl]; exact h1)]
  have hs : (sizeOf (Program.elem Tryd.prog 78)).run Tryd.prog w = .ok 1 w := by kernel_rfl
  rw [hs, hl]
  simp [slicedAt, Result.andThen, Addr.add]
theorem exists_yes (m d : Int) (w : World) (hT : LTab w) (h : Ex m d) :
    Calls Tryd.prog 76 #[.int .i64 m, .int .i64 d] w fun e w' => e = .returned (.bool true) ∧ w = w' := by
  have hc := hT.1 m h.1 h.2.1
  obtain ⟨h1, h2, h3, h4⟩ := h
  have hb := mlen_bounds false m h1 h2
  clear hT
  have k4 : decide (d ≤ mlen false m) = true := by simp; omega
  go_enter Tryd.func76, Tryd.ntmps76
  go_wp2
  go_ret
  exact ⟨rfl, rfl⟩
theorem exists_no (m d : Int) (w : World) (hT : LTab w) (h : ¬ Ex m d) :
    Calls Tryd.prog 76 #[.int .i64 m, .int .i64 d] w fun e w' => e = .returned (.bool false) ∧ w = w' := by
  by_cases h1 : 1 ≤ m
  · by_cases h2 : m ≤ 12
    · have hc := hT.1 m h1 h2
      clear hT
      by_cases h3 : 1 ≤ d
      · have k4 : decide (d ≤ mlen false m) = false := by
          have : ¬ d ≤ mlen false m := fun g => h ⟨h1, h2, h3, g⟩
          simpa using this
        go_enter Tryd.func76, Tryd.ntmps76
        go_wp2
        go_ret
        exact ⟨rfl, rfl⟩
      · go_enter Tryd.func76, Tryd.ntmps76
        go_wp2
        go_ret
        exact ⟨rfl, rfl⟩
    · clear hT
      go_enter Tryd.func76, Tryd.ntmps76
      go_wp2
      go_ret
      exact ⟨rfl, rfl⟩
  · clear hT
    go_enter Tryd.func76, Tryd.ntmps76
    go_wp2
    go_ret
    exact ⟨rfl, rfl⟩
theorem Position_no (m d : Int) (w : World) (hT : LTab w) (h : ¬ Ex m d) :
    Calls Tryd.prog 56 #[.int .i64 m, .int .i64 d] w fun e w' => e = .returned (.tuple #[.int .i64 0, .int .i64 0, .bool false]) ∧ w = w' := by
  have KE := Lib.hid (exists_no m d w hT h)
  clear hT h
  go_enter Tryd.func56, Tryd.ntmps56
  go_wp2_with (go_at_call 76; refine (KE.out).mono ?_; rintro e w1 ⟨rfl, rfl⟩)
  go_ret3
  exact ⟨rfl, rfl⟩
theorem Position_ok (m d : Int) (w : World) (hT : LTab w) (h : Ex m d) :
    Calls Tryd.prog 56 #[.int .i64 m, .int .i64 d] w fun e w' => e = .returned (.tuple #[.int .i64 (lun (dayN m d)), .int .i64 (psn (dayN m d)), .bool true]) ∧ w = w' := by
  have KE := Lib.hid (exists_yes m d w hT h)
  have KT := Lib.hid hT
  obtain ⟨p1, p2⟩ := dayN_bounds m d h
  have KL := Lib.hid (fun l a b c e => lun_end (dayN m d) l a b c p2 e)
  have KD : Hid (dayN m d = cum false m + d - 1) := rfl
  have KC := Lib.hid (cum_succ false)
  obtain ⟨h1, h2, h3, h4⟩ := h
  have hb := mlen_bounds false m h1 h2
  clear hT
  have hsl : ∀ W, (Instr.sliceAt 78 (.pointer (some ⟨0, 0, none⟩)) none (some (.int .i64 (m - 1))) none).run Tryd.prog W = .ok (.slice (some ⟨0, 0, none⟩) (m - 1).toNat 12) W := fun W => sl12 W _ .i64 (m - 1) (by omega) (by omega)
  go_enter Tryd.func56, Tryd.ntmps56
  go_wp2_with (go_at_call 76; refine (KE.out).mono ?_; rintro e w1 ⟨rfl, rfl⟩)
  go_loop [5, 19] (fun t i => ∃ k : Nat, (k : Int) ≤ m - 1 ∧ i = .int .i64 k ∧ t = .int .i64 (cum false (k + 1) + d - 1)) (fun _ i => (m - intOf i).toNat)
  case atStart => exact ⟨0, by omega, rfl, by rw [show cum false (((0 : Nat) : Int) + 1) = 0 from by decide]; go_num⟩
  case round =>
    obtain ⟨k, hk, rfl, rfl⟩ := hrel
    have cb := cum_bounds false (k + 1) (by omega) (by omega)
    by_cases hlt : (k : Int) < m - 1
    · have hc : w.cell? ⟨0, k, none⟩ = some (.int .i64 (mlen false (k + 1))) := by
        have := KT.out.1 (k + 1) (by omega) (by omega)
        rwa [show ((k : Int) + 1).toNat - 1 = k from by omega] at this
      have mb := mlen_bounds false (k + 1) (by omega) (by omega)
      go_wp2
      go_round
      case rel => exact ⟨k + 1, by omega, by go_num, by rw [show (((k + 1 : Nat) : Int) + 1) = (k + 1 : Int) + 1 from by omega, KC.out (k + 1) (by omega) (by omega)]; go_num⟩
      case measure => simp [intOf]; omega
    · obtain rfl : m = k + 1 := by omega
      go_wp2
      go_loop [4, 5] (fun lv pv => ∃ l : Int, 0 ≤ l ∧ l ≤ 12 ∧ spanSum l ≤ dayN (k + 1) d ∧ lv = .int .i64 l ∧ pv = .int .i64 (dayN (k + 1) d - spanSum l)) (fun lv _ => (12 - intOf lv).toNat)
      case atStart => exact ⟨0, by omega, by omega, p1, rfl, by rw [show spanSum 0 = 0 from rfl, KD.out]; go_num⟩
      case round =>
        obtain ⟨l, hl1, hl2, hl3, rfl, rfl⟩ := hrel
        by_cases hlt2 : l < 12
        · have hc2 := KT.out.2 l hl1 hlt2
          have hs : spanSum (l + 1) = spanSum l + (30 - l % 2) := by unfold spanSum; omega
          have HS := Lib.hid hs
          have hs0 : 0 ≤ spanSum l := by unfold spanSum; omega
          clear hs
          by_cases hge : 30 - l % 2 ≤ dayN (k + 1) d - spanSum l
          · go_wp2
            go_round
            case rel => exact ⟨l + 1, by omega, by omega, by rw [HS.out]; omega, rfl, by rw [HS.out]; go_num⟩
            case measure => simp [intOf]; omega
          · have hr := KL.out l hl1 hl2 hl3 (.inr (by omega))
            have HR := Lib.hid hr
            clear hr
            go_wp2
            go_ret3
            exact ⟨by rw [← HR.out.1, ← HR.out.2]; rfl, rfl⟩
        · obtain rfl : l = 12 := by omega
          have HR := Lib.hid (KL.out 12 hl1 hl2 hl3 (.inl rfl))
          go_wp2
          go_ret3
          exact ⟨by rw [← HR.out.1, ← HR.out.2]; rfl, rfl⟩
end Go.Proofs.YtdmgnanpjkimlaaDoor

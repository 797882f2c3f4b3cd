/- Contracts and plain lemmas: Lab, LabOn, LabB, RefLab, RefLab2, RefLab3. -/
import Derived.Test.YtblaphkaklocfaaGreatDoorG01
import Derived.Outline
set_option linter.unusedSimpArgs false
set_option linter.unusedVariables false
set_option linter.unusedSectionVars false
/- Contracts: package label: Position, On, Bears. -/
namespace Go.Proofs.YtblaphkaklocfaaGreatDoor
open Go.ChangeShapes Go.WideShapes Go.ChangeAt Go.RowKit
set_option maxHeartbeats 800000

theorem lt_cellL {w : World} {k o : Nat} {v : Value} (h : w.cell? ⟨k, o, none⟩ = some v) : k < w.heap.size := by
  by_cases hk : k < w.heap.size
  · exact hk
  · have : w.heap[k]? = none := by simp; omega
    simp [World.cell?, this] at h

/-- The tables of label lie as the program's text lays them. -/
def LTab (w : World) : Prop := (∀ m : Int, 1 ≤ m → m ≤ 12 → w.cell? ⟨8, m.toNat - 1, none⟩ = some (.int .i64 (mlen false m))) ∧
  (∀ l : Int, 0 ≤ l → l < 12 → w.cell? ⟨9, l.toNat, none⟩ = some (.int .i64 (30 - l % 2)))
theorem LTab.kept {w w' : World} (h : LTab w) (k : Kept w w') : LTab w' :=
  ⟨fun m h1 h2 => (k.cell _ _ (lt_cellL (h.1 m h1 h2))).trans (h.1 m h1 h2), fun m h1 h2 => (k.cell _ _ (lt_cellL (h.2 m h1 h2))).trans (h.2 m h1 h2)⟩

/-- A day of a common year. -/
def Ex (m d : Int) : Prop := 1 ≤ m ∧ m ≤ 12 ∧ 1 ≤ d ∧ d ≤ mlen false m
def dayN (m d : Int) : Int := cum false m + d - 1
def lun (p : Int) : Int := if p < 354 then 2 * (p / 59) + (if p % 59 < 30 then 0 else 1) else 12
def psn (p : Int) : Int := if p < 354 then (if p % 59 < 30 then p % 59 else p % 59 - 30) else p - 354
def spanSum (l : Int) : Int := 59 * (l / 2) + 30 * (l % 2)
theorem dayN_bounds (m d : Int) (h : Ex m d) : 0 ≤ dayN m d ∧ dayN m d ≤ 364 := by
  obtain ⟨h1, h2, h3, h4⟩ := h
  have a := cum_mono false m 13 h1 (by omega) (by omega)
  have b := cum_bounds false m h1 (by omega)
  have c : cum false 13 = 365 := by decide
  unfold dayN
  omega
theorem lun_end (p l : Int) (h0 : 0 ≤ l) (h1 : l ≤ 12) (h2 : spanSum l ≤ p) (h3 : p ≤ 364) (h4 : l = 12 ∨ p - spanSum l < 30 - l % 2) : l = lun p ∧ p - spanSum l = psn p := by
  unfold lun psn
  unfold spanSum at *
  rcases (show l % 2 = 0 ∨ l % 2 = 1 by omega) with e | e
  · obtain ⟨q, rfl⟩ : ∃ q, l = 2 * q := ⟨l / 2, by omega⟩
    have e1 : 2 * q / 2 = q := by omega
    rw [e, e1] at h2 h4 ⊢
    by_cases hp : p < 354
    · have hq : p / 59 = q := by omega
      have hr : p % 59 = p - 59 * q := by omega
      rw [if_pos hp, if_pos hp, hq, hr, if_pos (by omega), if_pos (by omega)]
      omega
    · rw [if_neg hp, if_neg hp]
      omega
  · obtain ⟨q, rfl⟩ : ∃ q, l = 2 * q + 1 := ⟨l / 2, by omega⟩
    have e1 : (2 * q + 1) / 2 = q := by omega
    rw [e, e1] at h2 h4 ⊢
    by_cases hp : p < 354
    · have hq : p / 59 = q := by omega
      have hr : p % 59 = p - 59 * q := by omega
      rw [if_pos hp, if_pos hp, hq, hr, if_neg (by omega), if_neg (by omega)]
      omega
    · omega

theorem sl12 (w : World) (a : Addr) (k : IntKind) (h : Int) (h0 : 0 ≤ h) (h1 : h ≤ 12) :
    (Instr.sliceAt 289 (.pointer (some a)) none (some (.int k h)) none).run Tryz.prog w = .ok (.slice (some a) h.toNat 12) w := by
  have hl : Program.arrayLen Tryz.prog 289 = 12 := by kernel_rfl
  rw [run_sliceAt_array_h w _ a (by kernel_rfl) k h h0 (by rw [hl]; exact h1)]
  have hs : (sizeOf (Program.elem Tryz.prog 289)).run Tryz.prog w = .ok 1 w := by kernel_rfl
  rw [hs, hl]
  simp [slicedAt, Result.andThen, Addr.add]
theorem exists_yes (m d : Int) (w : World) (hT : LTab w) (h : Ex m d) :
    Calls Tryz.prog 282 #[.int .i64 m, .int .i64 d] w fun e w' => e = .returned (.bool true) ∧ w = w' := by
  have hc := hT.1 m h.1 h.2.1
  obtain ⟨h1, h2, h3, h4⟩ := h
  have hb := mlen_bounds false m h1 h2
  clear hT
  have k4 : decide (d ≤ mlen false m) = true := by simp; omega
  go_enter Tryz.func282, Tryz.ntmps282
  go_wp2
  go_ret
  exact ⟨rfl, rfl⟩
theorem exists_no (m d : Int) (w : World) (hT : LTab w) (h : ¬ Ex m d) :
    Calls Tryz.prog 282 #[.int .i64 m, .int .i64 d] w fun e w' => e = .returned (.bool false) ∧ w = w' := by
  by_cases h1 : 1 ≤ m
  · by_cases h2 : m ≤ 12
    · have hc := hT.1 m h1 h2
      clear hT
      by_cases h3 : 1 ≤ d
      · have k4 : decide (d ≤ mlen false m) = false := by
          have : ¬ d ≤ mlen false m := fun g => h ⟨h1, h2, h3, g⟩
          simpa using this
        go_enter Tryz.func282, Tryz.ntmps282
        go_wp2
        go_ret
        exact ⟨rfl, rfl⟩
      · go_enter Tryz.func282, Tryz.ntmps282
        go_wp2
        go_ret
        exact ⟨rfl, rfl⟩
    · clear hT
      go_enter Tryz.func282, Tryz.ntmps282
      go_wp2
      go_ret
      exact ⟨rfl, rfl⟩
  · clear hT
    go_enter Tryz.func282, Tryz.ntmps282
    go_wp2
    go_ret
    exact ⟨rfl, rfl⟩
theorem Position_no (m d : Int) (w : World) (hT : LTab w) (h : ¬ Ex m d) :
    Calls Tryz.prog 271 #[.int .i64 m, .int .i64 d] w fun e w' => e = .returned (.tuple #[.int .i64 0, .int .i64 0, .bool false]) ∧ w = w' := by
  have KE := Lib.hid (exists_no m d w hT h)
  clear hT h
  go_enter Tryz.func271, Tryz.ntmps271
  go_wp2_with (go_at_call 282; refine (KE.out).mono ?_; rintro e w1 ⟨rfl, rfl⟩)
  go_ret3
  exact ⟨rfl, rfl⟩
theorem Position_ok (m d : Int) (w : World) (hT : LTab w) (h : Ex m d) :
    Calls Tryz.prog 271 #[.int .i64 m, .int .i64 d] w fun e w' => e = .returned (.tuple #[.int .i64 (lun (dayN m d)), .int .i64 (psn (dayN m d)), .bool true]) ∧ w = w' := by
  have KE := Lib.hid (exists_yes m d w hT h)
  have KT := Lib.hid hT
  obtain ⟨p1, p2⟩ := dayN_bounds m d h
  have KL := Lib.hid (fun l a b c e => lun_end (dayN m d) l a b c p2 e)
  have KD : Hid (dayN m d = cum false m + d - 1) := rfl
  have KC := Lib.hid (cum_succ false)
  obtain ⟨h1, h2, h3, h4⟩ := h
  have hb := mlen_bounds false m h1 h2
  clear hT
  have hsl : ∀ W, (Instr.sliceAt 289 (.pointer (some ⟨8, 0, none⟩)) none (some (.int .i64 (m - 1))) none).run Tryz.prog W = .ok (.slice (some ⟨8, 0, none⟩) (m - 1).toNat 12) W := fun W => sl12 W _ .i64 (m - 1) (by omega) (by omega)
  go_enter Tryz.func271, Tryz.ntmps271
  go_wp2_with (go_at_call 282; refine (KE.out).mono ?_; rintro e w1 ⟨rfl, rfl⟩)
  go_loop [5, 19] (fun t i => ∃ k : Nat, (k : Int) ≤ m - 1 ∧ i = .int .i64 k ∧ t = .int .i64 (cum false (k + 1) + d - 1)) (fun _ i => (m - intOf i).toNat)
  case atStart => exact ⟨0, by omega, rfl, by rw [show cum false (((0 : Nat) : Int) + 1) = 0 from by decide]; go_num⟩
  case round =>
    obtain ⟨k, hk, rfl, rfl⟩ := hrel
    have cb := cum_bounds false (k + 1) (by omega) (by omega)
    by_cases hlt : (k : Int) < m - 1
    · have hc : w.cell? ⟨8, k, none⟩ = some (.int .i64 (mlen false (k + 1))) := by
        have := KT.out.1 (k + 1) (by omega) (by omega)
        rwa [show ((k : Int) + 1).toNat - 1 = k from by omega] at this
      have mb := mlen_bounds false (k + 1) (by omega) (by omega)
      go_wp2
      go_round
      case rel => exact ⟨k + 1, by omega, by go_num, by rw [show (((k + 1 : Nat) : Int) + 1) = (k + 1 : Int) + 1 from by omega, KC.out (k + 1) (by omega) (by omega)]; go_num⟩
      case measure => simp [intOf]; omega
    · obtain rfl : m = k + 1 := by omega
      go_wp2
      go_loop [4, 5] (fun lv pv => ∃ l : Int, 0 ≤ l ∧ l ≤ 12 ∧ spanSum l ≤ dayN (k + 1) d ∧ lv = .int .i64 l ∧ pv = .int .i64 (dayN (k + 1) d - spanSum l)) (fun lv _ => (12 - intOf lv).toNat)
      case atStart => exact ⟨0, by omega, by omega, p1, rfl, by rw [show spanSum 0 = 0 from rfl, KD.out]; go_num⟩
      case round =>
        obtain ⟨l, hl1, hl2, hl3, rfl, rfl⟩ := hrel
        by_cases hlt2 : l < 12
        · have hc2 := KT.out.2 l hl1 hlt2
          have hs : spanSum (l + 1) = spanSum l + (30 - l % 2) := by unfold spanSum; omega
          have HS := Lib.hid hs
          have hs0 : 0 ≤ spanSum l := by unfold spanSum; omega
          clear hs
          by_cases hge : 30 - l % 2 ≤ dayN (k + 1) d - spanSum l
          · go_wp2
            go_round
            case rel => exact ⟨l + 1, by omega, by omega, by rw [HS.out]; omega, rfl, by rw [HS.out]; go_num⟩
            case measure => simp [intOf]; omega
          · have hr := KL.out l hl1 hl2 hl3 (.inr (by omega))
            have HR := Lib.hid hr
            clear hr
            go_wp2
            go_ret3
            exact ⟨by rw [← HR.out.1, ← HR.out.2]; rfl, rfl⟩
        · obtain rfl : l = 12 := by omega
          have HR := Lib.hid (KL.out 12 hl1 hl2 hl3 (.inl rfl))
          go_wp2
          go_ret3
          exact ⟨by rw [← HR.out.1, ← HR.out.2]; rfl, rfl⟩
end Go.Proofs.YtblaphkaklocfaaGreatDoor
/- Contracts: package label: On, Bears; slices.Index, Contains at ints. -/
namespace Go.Proofs.YtblaphkaklocfaaGreatDoor
open Go.ChangeShapes Go.WideShapes Go.ChangeAt Go.RowKit
set_option maxHeartbeats 800000

/-- The labels of the position p of the lunation l. -/
def onL (l p : Int) : List Int :=
  if l % 2 = 0 then (if p = 5 then [31, 25] else [30 - p]) else if p = 4 then [31, 26] else if p = 5 then [25, 24] else if 5 < p then [29 - p] else [30 - p]
theorem On_no (m d : Int) (w : World) (hT : LTab w) (h : ¬ Ex m d) :
    Calls Tryz.prog 246 #[.int .i64 m, .int .i64 d] w fun e w' => e = .returned (.slice none 0 0) ∧ w = w' := by
  have KE := Lib.hid (Position_no m d w hT h)
  clear hT h
  go_enter Tryz.func246, Tryz.ntmps246
  go_wp2_with (go_at_call 271; refine (KE.out).mono ?_; rintro e w1 ⟨rfl, rfl⟩)
  go_ret
  exact ⟨rfl, rfl⟩
theorem On_ok (m d : Int) (w : World) (hT : LTab w) (h : Ex m d) :
    Calls Tryz.prog 246 #[.int .i64 m, .int .i64 d] w fun e w' => e = .returned (.slice (some ⟨w.heap.size, 0, none⟩) (onL (lun (dayN m d)) (psn (dayN m d))).length (onL (lun (dayN m d)) (psn (dayN m d))).length) ∧
      w' = w.alloc (.cells ((onL (lun (dayN m d)) (psn (dayN m d))).map (Value.int .i64)).toArray 3) := by
  have KE := Lib.hid (Position_ok m d w hT h)
  have hl : 0 ≤ lun (dayN m d) ∧ lun (dayN m d) ≤ 12 ∧ 0 ≤ psn (dayN m d) ∧ psn (dayN m d) ≤ 29 := by
    obtain ⟨p1, p2⟩ := dayN_bounds m d h
    unfold lun psn
    by_cases h1 : dayN m d < 354
    · rw [if_pos h1, if_pos h1]
      split <;> omega
    · rw [if_neg h1, if_neg h1]
      omega
  clear hT h
  generalize lun (dayN m d) = l at *
  generalize psn (dayN m d) = p at *
  obtain ⟨l1, l2, p1, p2⟩ := hl
  unfold onL
  by_cases e : l % 2 = 0
  · rw [if_pos e]
    by_cases e5 : p = 5
    · subst e5
      rw [if_pos rfl]
      go_enter Tryz.func246, Tryz.ntmps246
      go_wp2_with (go_at_call 271; refine (KE.out).mono ?_; rintro e w1 ⟨rfl, rfl⟩)
      go_ret
      exact ⟨rfl, rfl⟩
    · rw [if_neg e5]
      go_enter Tryz.func246, Tryz.ntmps246
      go_wp2_with (go_at_call 271; refine (KE.out).mono ?_; rintro e w1 ⟨rfl, rfl⟩)
      go_ret
      exact ⟨rfl, rfl⟩
  · have e1 : l % 2 = 1 := by omega
    rw [if_neg e]
    by_cases e4 : p = 4
    · subst e4
      rw [if_pos rfl]
      go_enter Tryz.func246, Tryz.ntmps246
      go_wp2_with (go_at_call 271; refine (KE.out).mono ?_; rintro e w1 ⟨rfl, rfl⟩)
      go_ret
      exact ⟨rfl, rfl⟩
    · rw [if_neg e4]
      by_cases e5 : p = 5
      · subst e5
        rw [if_pos rfl]
        go_enter Tryz.func246, Tryz.ntmps246
        go_wp2_with (go_at_call 271; refine (KE.out).mono ?_; rintro e w1 ⟨rfl, rfl⟩)
        go_ret
        exact ⟨rfl, rfl⟩
      · rw [if_neg e5]
        by_cases g5 : 5 < p
        · rw [if_pos g5]
          go_enter Tryz.func246, Tryz.ntmps246
          go_wp2_with (go_at_call 271; refine (KE.out).mono ?_; rintro e w1 ⟨rfl, rfl⟩)
          go_ret
          exact ⟨rfl, rfl⟩
        · rw [if_neg g5]
          go_enter Tryz.func246, Tryz.ntmps246
          go_wp2_with (go_at_call 271; refine (KE.out).mono ?_; rintro e w1 ⟨rfl, rfl⟩)
          go_ret
          exact ⟨rfl, rfl⟩
end Go.Proofs.YtblaphkaklocfaaGreatDoor
/- Contracts: slices.Index, slices.Contains at ints; label.Bears. -/
namespace Go.Proofs.YtblaphkaklocfaaGreatDoor
open Go.ChangeShapes Go.WideShapes Go.ChangeAt Go.RowKit
set_option maxHeartbeats 800000

def idxAt (x : Int) : List Int → Nat → Int
  | [], _ => -1
  | y :: t, i => if x = y then i else idxAt x t (i + 1)
theorem idxAt_sign (x : Int) (L : List Int) (i : Nat) : decide (0 ≤ idxAt x L i) = decide (x ∈ L) := by
  induction L generalizing i with
  | nil => simp [idxAt]
  | cons y t ih =>
    unfold idxAt
    by_cases e : x = y
    · simp [e]
    · rw [if_neg e, ih]
      simp [e]
theorem idxAt_bounds (x : Int) (L : List Int) (i : Nat) : -1 ≤ idxAt x L i ∧ idxAt x L i ≤ i + L.length := by
  induction L generalizing i with
  | nil => simp [idxAt]
  | cons y t ih =>
    unfold idxAt
    have := ih (i + 1)
    simp only [List.length_cons]
    split <;> omega
/-- The numbers L lie in the block b. -/
def Lies (w : World) (b : Nat) (L : List Int) : Prop := ∀ j, j < L.length → w.cell? ⟨b, j, none⟩ = some (.int .i64 L[j]!)
theorem Index_nil (x : Int) (w : World) : Calls Tryz.prog 270 #[.slice none 0 0, .int .i64 x] w fun e w' => e = .returned (.int .i64 (-1)) ∧ w = w' := by
  go_enter Tryz.func270, Tryz.ntmps270
  go_wp2
  go_loop [5, 8] (fun _ i => i = .int .i64 0) (fun _ _ => 0)
  case atStart => rfl
  case round =>
    subst hrel
    go_wp2
    go_ret
    exact ⟨rfl, rfl⟩
theorem Index_of (x : Int) (b : Nat) (L : List Int) (w : World) (hL : Lies w b L) (hn : L.length ≤ 1000) :
    Calls Tryz.prog 270 #[.slice (some ⟨b, 0, none⟩) L.length L.length, .int .i64 x] w fun e w' => e = .returned (.int .i64 (idxAt x L 0)) ∧ w = w' := by
  go_enter Tryz.func270, Tryz.ntmps270
  go_wp2
  go_loop [5, 8] (fun _ i => ∃ k : Nat, k ≤ L.length ∧ i = .int .i64 k ∧ Hid (idxAt x L 0 = idxAt x (L.drop k) k)) (fun _ i => (L.length - intOf i).toNat)
  case atStart => exact ⟨0, by omega, rfl, rfl⟩
  case round =>
    obtain ⟨k, hk, rfl, A⟩ := hrel
    by_cases hlt : k < L.length
    · have hc := hL k hlt
      have hd : L.drop k = L[k]! :: L.drop (k + 1) := by rw [List.drop_eq_getElem_cons hlt, List.getElem!_eq_getElem?_getD]; simp [hlt]
      have hi : (k : Int) < (L.length : Int) := by omega
      generalize L[k]! = y at *
      by_cases hy : x = y
      · subst hy
        go_wp2
        go_ret
        exact ⟨by rw [A.out, hd]; simp [idxAt], rfl⟩
      · go_wp2
        go_round
        case rel => exact ⟨k + 1, by omega, by go_num, (show Hid _ from (by show idxAt x L 0 = _; rw [A.out, hd]; simp [idxAt, hy]))⟩
        case measure => simp [intOf]; omega
    · obtain rfl : k = L.length := by omega
      go_wp2
      go_ret
      exact ⟨by rw [A.out]; simp [idxAt], rfl⟩
theorem Contains_nil (x : Int) (w : World) : Calls Tryz.prog 245 #[.slice none 0 0, .int .i64 x] w fun e w' => e = .returned (.bool false) ∧ w = w' := by
  have K := Lib.hid (Index_nil x w)
  go_enter Tryz.func245, Tryz.ntmps245
  go_wp2_with (go_at_call 270; refine (K.out).mono ?_; rintro e w1 ⟨rfl, rfl⟩)
  go_ret
  exact ⟨rfl, rfl⟩
theorem Contains_of (x : Int) (b : Nat) (L : List Int) (w : World) (hL : Lies w b L) (hn : L.length ≤ 1000) :
    Calls Tryz.prog 245 #[.slice (some ⟨b, 0, none⟩) L.length L.length, .int .i64 x] w fun e w' => e = .returned (.bool (decide (x ∈ L))) ∧ w = w' := by
  have K := Lib.hid (Index_of x b L w hL hn)
  have hb := idxAt_bounds x L 0
  rw [← idxAt_sign x L 0]
  generalize idxAt x L 0 = r at *
  clear hL
  go_enter Tryz.func245, Tryz.ntmps245
  go_wp2_with (go_at_call 270; refine (K.out).mono ?_; rintro e w1 ⟨rfl, rfl⟩)
  go_ret
  exact ⟨rfl, rfl⟩

instance (m d : Int) : Decidable (Ex m d) := by unfold Ex; infer_instance
/-- The labels of a day, those that label.On returns. -/
def onD (m d : Int) : List Int := onL (lun (dayN m d)) (psn (dayN m d))
def bears (m d l : Int) : Bool := decide (Ex m d ∧ l ∈ onD m d)
theorem onL_len (l p : Int) : (onL l p).length ≤ 2 := by
  unfold onL
  repeat' split
  all_goals simp
theorem lies_new (w : World) (L : List Int) (T : TypeId) : Lies (w.alloc (.cells (L.map (Value.int .i64)).toArray T)) w.heap.size L := fun j hj => by
  have := World.cell?_alloc_mark w (L.map (Value.int .i64)).toArray T (0, 0) j
  rw [this]
  simp [hj]
theorem Bears_of (m d l : Int) (w : World) (hT : LTab w) :
    Calls Tryz.prog 195 #[.int .i64 m, .int .i64 d, .int .i64 l] w fun e w' => e = .returned (.bool (bears m d l)) ∧ Kept w w' := by
  by_cases h : Ex m d
  · have KO := Lib.hid (On_ok m d w hT h)
    have hb : bears m d l = decide (l ∈ onD m d) := by simp [bears, h]
    rw [hb]
    have hn : (onD m d).length ≤ 1000 := by have := onL_len (lun (dayN m d)) (psn (dayN m d)); unfold onD; omega
    unfold onD at *
    generalize onL (lun (dayN m d)) (psn (dayN m d)) = L at *
    have KC := Lib.hid (Contains_of l w.heap.size L _ (lies_new w L 3) hn)
    clear hT hb h
    go_enter Tryz.func195, Tryz.ntmps195
    go_wp2_with first | (go_at_call 246; refine (KO.out).mono ?_; rintro e w1 ⟨rfl, rfl⟩) | (go_at_call 245; refine (KC.out).mono ?_; rintro e w1 ⟨rfl, rfl⟩)
    go_ret
    exact ⟨rfl, (by repeat (first | with_reducible exact Kept.refl _ | with_reducible assumption | with_reducible refine Kept.drew ?_ | with_reducible refine Kept.drewN ?_ _ | with_reducible refine Kept.alloc ?_ _ | (with_reducible refine Kept.setCell ?_ (by first | exact Nat.le_refl _ | omega | (simp; done) | (simp; omega)) _) | (with_reducible refine Kept.trans ?_ (by with_reducible assumption))))⟩
  · have KO := Lib.hid (On_no m d w hT h)
    have hb : bears m d l = false := by simp [bears, h]
    rw [hb]
    have KC := Lib.hid (Contains_nil l w)
    clear hT hb h
    go_enter Tryz.func195, Tryz.ntmps195
    go_wp2_with first | (go_at_call 246; refine (KO.out).mono ?_; rintro e w1 ⟨rfl, rfl⟩) | (go_at_call 245; refine (KC.out).mono ?_; rintro e w1 ⟨rfl, rfl⟩)
    go_ret
    exact ⟨rfl, (by repeat (first | with_reducible exact Kept.refl _ | with_reducible assumption | with_reducible refine Kept.drew ?_ | with_reducible refine Kept.drewN ?_ _ | with_reducible refine Kept.alloc ?_ _ | (with_reducible refine Kept.setCell ?_ (by first | exact Nat.le_refl _ | omega | (simp; done) | (simp; omega)) _) | (with_reducible refine Kept.trans ?_ (by with_reducible assumption))))⟩
end Go.Proofs.YtblaphkaklocfaaGreatDoor
/- Contracts: reference 08: Exists, starts, Position, Bears, On, Numbers. -/
namespace Go.Proofs.YtblaphkaklocfaaGreatDoor
open Go.ChangeShapes Go.WideShapes Go.ChangeAt Go.RowKit
set_option maxHeartbeats 800000

def startsL : List Int := [101, 131, 301, 331, 429, 529, 627, 727, 825, 924, 1023, 1122, 1221]
/-- The lunations that have begun before the day n, and the position that the loop of the reference holds ahead of it. -/
def begun (n : Int) : Nat := if n = 0 then 0 else (lun (n - 1) + 1).toNat
def ahead (n : Int) : Int := if n = 0 then 0 else psn (n - 1)
def stepOk (m d : Int) : Bool := decide (Ex m d →
  (begun (dayN m d) < 13 ∧ startsL[begun (dayN m d)]! = 100 * m + d ∧ begun (dayN m d + 1) = begun (dayN m d) + 1 ∧ ahead (dayN m d + 1) = 0) ∨
  ((begun (dayN m d) < 13 → startsL[begun (dayN m d)]! ≠ 100 * m + d) ∧ begun (dayN m d + 1) = begun (dayN m d) ∧ ahead (dayN m d + 1) = ahead (dayN m d) + 1))
theorem step_all : ∀ m : Fin 13, ∀ d : Fin 32, stepOk (m.val : Int) (d.val : Int) = true := by decide +kernel
theorem step_ok (m d : Int) (h : Ex m d) :
  (begun (dayN m d) < 13 ∧ startsL[begun (dayN m d)]! = 100 * m + d ∧ begun (dayN m d + 1) = begun (dayN m d) + 1 ∧ ahead (dayN m d + 1) = 0) ∨
  ((begun (dayN m d) < 13 → startsL[begun (dayN m d)]! ≠ 100 * m + d) ∧ begun (dayN m d + 1) = begun (dayN m d) ∧ ahead (dayN m d + 1) = ahead (dayN m d) + 1) := by
  obtain ⟨h1, h2, h3, h4⟩ := id h
  have hb := mlen_bounds false m h1 h2
  have := step_all ⟨m.toNat, by omega⟩ ⟨d.toNat, by omega⟩
  simp only [Int.toNat_of_nonneg (show 0 ≤ m by omega), Int.toNat_of_nonneg (show 0 ≤ d by omega), stepOk] at this
  exact of_decide_eq_true this h
theorem begun_le (n : Int) (h : n ≤ 365) (h0 : 0 ≤ n) : begun n ≤ 13 ∧ 0 ≤ ahead n ∧ ahead n ≤ 29 := by
  unfold begun ahead
  by_cases e : n = 0
  · simp [e]
  · rw [if_neg e, if_neg e]
    unfold lun psn
    by_cases h1 : n - 1 < 354
    · rw [if_pos h1, if_pos h1]
      split <;> omega
    · rw [if_neg h1, if_neg h1]
      omega
theorem begun_fin (n : Int) (h0 : 0 ≤ n) (h : n ≤ 364) : (begun (n + 1) : Int) - 1 = lun n ∧ ahead (n + 1) = psn n := by
  have hl : 0 ≤ lun n := by
    unfold lun
    by_cases h1 : n < 354
    · rw [if_pos h1]
      split <;> omega
    · rw [if_neg h1]; omega
  unfold begun ahead
  rw [if_neg (by omega), if_neg (by omega), show n + 1 - 1 = n from by omega]
  exact ⟨by omega, rfl⟩
theorem rExists_of (m d : Int) (w : World) :
    Calls Tryz.prog 130 #[.int .i64 m, .int .i64 d] w fun e w' => e = .returned (.bool (decide (Ex m d))) ∧ w = w' := by
  have K := Lib.hid (rLen_any false m w)
  have hm : Ex m d ↔ 1 ≤ d ∧ d ≤ mlen false m := by
    unfold Ex
    by_cases h : m < 1 ∨ 12 < m
    · rw [mlen_out _ _ h]; omega
    · omega
  have hr : -100 ≤ mlen false m ∧ mlen false m ≤ 100 := by
    by_cases h : m < 1 ∨ 12 < m
    · rw [mlen_out _ _ h]; omega
    · have := mlen_bounds false m (by omega) (by omega); omega
  have hd : decide (Ex m d) = (decide (1 ≤ d) && decide (d ≤ mlen false m)) := by rw [← Bool.decide_and]; exact decide_eq_decide.mpr hm
  rw [hd]
  clear hd hm
  generalize mlen false m = n at *
  by_cases h1 : 1 ≤ d
  · by_cases h2 : d ≤ n
    · go_enter Tryz.func130, Tryz.ntmps130
      go_wp2_with (go_at_call 49; refine (K.out).mono ?_; rintro e w1 ⟨rfl, rfl⟩)
      go_ret
      exact ⟨by simp [h1, h2], rfl⟩
    · go_enter Tryz.func130, Tryz.ntmps130
      go_wp2_with (go_at_call 49; refine (K.out).mono ?_; rintro e w1 ⟨rfl, rfl⟩)
      go_ret
      exact ⟨by simp [h1, h2], rfl⟩
  · go_enter Tryz.func130, Tryz.ntmps130
    go_wp2
    go_ret
    exact ⟨by simp [show ¬ 1 ≤ d from by omega], rfl⟩
theorem rStarts_of (w : World) :
    Calls Tryz.prog 131 #[] w fun e w' => e = .returned (.slice (some ⟨w.heap.size, 0, none⟩) 13 13) ∧ w' = w.alloc (.cells (startsL.map (Value.int .i64)).toArray 3) := by
  go_enter Tryz.func131, Tryz.ntmps131
  go_wp2
  go_ret
  exact ⟨rfl, rfl⟩
theorem rPosition_no (m d : Int) (w : World) (h : ¬ Ex m d) :
    Calls Tryz.prog 85 #[.int .i64 m, .int .i64 d] w fun e w' => e = .returned (.tuple #[.int .i64 0, .int .i64 0, .bool false]) ∧ Kept w w' := by
  have KE := Lib.hid (rExists_of m d w)
  rw [decide_eq_false h] at KE
  clear h
  go_enter Tryz.func85, Tryz.ntmps85
  go_wp2_with (go_at_call 130; refine (KE.out).mono ?_; rintro e w1 ⟨rfl, rfl⟩)
  go_ret3
  exact ⟨rfl, Kept.refl _⟩
theorem rPosition_ok (m d : Int) (w : World) (h : Ex m d) :
    Calls Tryz.prog 85 #[.int .i64 m, .int .i64 d] w fun e w' => e = .returned (.tuple #[.int .i64 (lun (dayN m d)), .int .i64 (psn (dayN m d)), .bool true]) ∧ Kept w w' := by
  have KE := Lib.hid (rExists_of m d w)
  rw [decide_eq_true h] at KE
  have KS := Lib.hid (rStarts_of w)
  have KL := Lib.hid (fun b m w => rLen_any b m w)
  have HL := Lib.hid (lies_new w startsL 3)
  have K0 : Kept w (w.alloc (.cells (startsL.map (Value.int .i64)).toArray 3)) := (by repeat (first | with_reducible exact Kept.refl _ | with_reducible assumption | with_reducible refine Kept.drew ?_ | with_reducible refine Kept.drewN ?_ _ | with_reducible refine Kept.alloc ?_ _ | (with_reducible refine Kept.setCell ?_ (by first | exact Nat.le_refl _ | omega | (simp; done) | (simp; omega)) _) | (with_reducible refine Kept.trans ?_ (by with_reducible assumption))))
  obtain ⟨h1, h2, h3, h4⟩ := id h
  have KH := Lib.hid h
  clear h
  go_enter Tryz.func85, Tryz.ntmps85
  go_wp2_with first | (go_at_call 130; refine (KE.out).mono ?_; rintro e w1 ⟨rfl, rfl⟩) | (go_at_call 131; refine (KS.out).mono ?_; rintro e w1 ⟨rfl, rfl⟩)
  generalize (w.alloc (.cells (startsL.map (Value.int .i64)).toArray 3)) = w1 at *
  go_loop [8, 9, 10] (fun l p m1 => ∃ k : Int, 1 ≤ k ∧ k ≤ m ∧ m1 = .int .i64 k ∧ l = .int .i64 ((begun (cum false k) : Int) - 1) ∧ p = .int .i64 (ahead (cum false k))) (fun _ _ m1 => (13 - intOf m1).toNat)
  case atStart => exact ⟨1, by omega, by omega, rfl, rfl, rfl⟩
  case round =>
    obtain ⟨k, k1, k2, rfl, rfl, rfl⟩ := hrel
    have KB := Lib.hid (cum_bounds false k k1 (by omega))
    have KM := Lib.hid (mlen_bounds false k k1 (by omega))
    go_wp2
    go_loop [8, 9, 11] (fun l p d1 => ∃ c : Int, 1 ≤ c ∧ c ≤ mlen false k + 1 ∧ (k = m → c ≤ d) ∧ d1 = .int .i64 c ∧ l = .int .i64 ((begun (cum false k + c - 1) : Int) - 1) ∧ p = .int .i64 (ahead (cum false k + c - 1))) (fun _ _ d1 => (40 - intOf d1).toNat)
    case atStart => exact ⟨1, by omega, by have := KM.out; omega, fun _ => by omega, rfl, by rw [show cum false k + 1 - 1 = cum false k from by omega], by rw [show cum false k + 1 - 1 = cum false k from by omega]⟩
    case round =>
      obtain ⟨c, c1, c2, c3, rfl, rfl, rfl⟩ := hrel
      have hM := KM.out
      by_cases hc : c ≤ mlen false k
      · have hx : Ex k c := ⟨k1, by omega, c1, hc⟩
        have hst := step_ok k c hx
        have hn := dayN_bounds k c hx
        have hfin := begun_fin (dayN k c) hn.1 hn.2
        have hle := begun_le (dayN k c) (by omega) hn.1
        have hle' := begun_le (dayN k c + 1) (by omega) (by omega)
        have hdn : cum false k + c - 1 = dayN k c := rfl
        have hdn' : cum false k + (c + 1) - 1 = dayN k c + 1 := by unfold dayN; omega
        have HF := Lib.hid hfin
        have HD := Lib.hid hdn'
        rw [hdn]
        clear hdn hdn' hfin hx hn
        have hcell : begun (dayN k c) < 13 → w1.cell? ⟨w.heap.size, begun (dayN k c), none⟩ = some (.int .i64 startsL[begun (dayN k c)]!) := fun g => HL.out _ g
        generalize hbn : begun (dayN k c) = bn at *
        generalize hbn' : begun (dayN k c + 1) = bn' at *
        generalize han : ahead (dayN k c) = an at *
        generalize han' : ahead (dayN k c + 1) = an' at *
        generalize startsL[bn]! = sv at *
        have HE := Lib.hid (And.intro hbn' han')
        clear hbn hbn' han han'
        have hkm : k = m ∨ k < m := by omega
        rcases hst with ⟨s1, rfl, rfl, rfl⟩ | ⟨s1, rfl, rfl⟩
        · have hcell' := hcell s1
          clear hcell
          rcases hkm with rfl | hkm
          · have c4 := c3 rfl
            by_cases hcd : c = d
            · subst hcd
              go_wp2_with (go_at_call 49; refine (KL.out false k w1).mono ?_; rintro e w1 ⟨rfl, rfl⟩)
              go_ret3
              exact ⟨by rw [← HF.out.1, ← HF.out.2] <;> first | rfl | go_num | (simp; done), K0⟩
            · go_wp2_with (go_at_call 49; refine (KL.out false k w1).mono ?_; rintro e w1 ⟨rfl, rfl⟩)
              go_round
              case rel => exact ⟨c + 1, by omega, by omega, fun _ => by omega, rfl, by rw [HD.out, HE.out.1] <;> first | rfl | go_num | (simp; done), by rw [HD.out, HE.out.2]⟩
              case measure => simp [intOf]; omega
          · go_wp2_with (go_at_call 49; refine (KL.out false k w1).mono ?_; rintro e w1 ⟨rfl, rfl⟩)
            go_round
            case rel => exact ⟨c + 1, by omega, by omega, fun _ => by omega, rfl, by rw [HD.out, HE.out.1] <;> first | rfl | go_num | (simp; done), by rw [HD.out, HE.out.2]⟩
            case measure => simp [intOf]; omega
        · by_cases s0 : bn' < 13
          · have hcell' := hcell s0
            have s2 := s1 s0
            clear hcell s1
            rcases hkm with rfl | hkm
            · have c4 := c3 rfl
              by_cases hcd : c = d
              · subst hcd
                go_wp2_with (go_at_call 49; refine (KL.out false k w1).mono ?_; rintro e w1 ⟨rfl, rfl⟩)
                go_ret3
                exact ⟨by rw [← HF.out.1, ← HF.out.2] <;> first | rfl | go_num | (simp; done), K0⟩
              · go_wp2_with (go_at_call 49; refine (KL.out false k w1).mono ?_; rintro e w1 ⟨rfl, rfl⟩)
                go_round
                case rel => exact ⟨c + 1, by omega, by omega, fun _ => by omega, rfl, by rw [HD.out, HE.out.1] <;> first | rfl | go_num | (simp; done), by rw [HD.out, HE.out.2]⟩
                case measure => simp [intOf]; omega
            · go_wp2_with (go_at_call 49; refine (KL.out false k w1).mono ?_; rintro e w1 ⟨rfl, rfl⟩)
              go_round
              case rel => exact ⟨c + 1, by omega, by omega, fun _ => by omega, rfl, by rw [HD.out, HE.out.1] <;> first | rfl | go_num | (simp; done), by rw [HD.out, HE.out.2]⟩
              case measure => simp [intOf]; omega
          · clear hcell s1
            obtain rfl : bn' = 13 := by omega
            rcases hkm with rfl | hkm
            · have c4 := c3 rfl
              by_cases hcd : c = d
              · subst hcd
                go_wp2_with (go_at_call 49; refine (KL.out false k w1).mono ?_; rintro e w1 ⟨rfl, rfl⟩)
                go_ret3
                exact ⟨by rw [← HF.out.1, ← HF.out.2] <;> first | rfl | go_num | (simp; done), K0⟩
              · go_wp2_with (go_at_call 49; refine (KL.out false k w1).mono ?_; rintro e w1 ⟨rfl, rfl⟩)
                go_round
                case rel => exact ⟨c + 1, by omega, by omega, fun _ => by omega, rfl, by rw [HD.out, HE.out.1] <;> first | rfl | go_num | (simp; done), by rw [HD.out, HE.out.2]⟩
                case measure => simp [intOf]; omega
            · go_wp2_with (go_at_call 49; refine (KL.out false k w1).mono ?_; rintro e w1 ⟨rfl, rfl⟩)
              go_round
              case rel => exact ⟨c + 1, by omega, by omega, fun _ => by omega, rfl, by rw [HD.out, HE.out.1] <;> first | rfl | go_num | (simp; done), by rw [HD.out, HE.out.2]⟩
              case measure => simp [intOf]; omega
      · have hkm : k < m := by
          rcases (show k = m ∨ k < m by omega) with rfl | g
          · have := c3 rfl; omega
          · exact g
        obtain rfl : c = mlen false k + 1 := by omega
        have HS := Lib.hid (cum_succ false k k1 (by omega))
        have hsum : cum false k + (mlen false k + 1) - 1 = cum false (k + 1) := by rw [HS.out]; omega
        rw [hsum]
        clear hsum
        go_wp2_with (go_at_call 49; refine (KL.out false k w1).mono ?_; rintro e w1 ⟨rfl, rfl⟩)
        go_round
        case rel => exact ⟨k + 1, by omega, by omega, by go_num, rfl, rfl⟩
        case measure => simp [intOf]; omega
end Go.Proofs.YtblaphkaklocfaaGreatDoor
/- Contracts: reference 08: Bears, Numbers. -/
namespace Go.Proofs.YtblaphkaklocfaaGreatDoor
open Go.ChangeShapes Go.WideShapes Go.ChangeAt Go.RowKit
set_option maxHeartbeats 800000

theorem lun_psn_bounds (m d : Int) (h : Ex m d) : 0 ≤ lun (dayN m d) ∧ lun (dayN m d) ≤ 12 ∧ 0 ≤ psn (dayN m d) ∧ psn (dayN m d) ≤ 29 ∧ (lun (dayN m d) % 2 = 1 → psn (dayN m d) ≤ 28) := by
  obtain ⟨p1, p2⟩ := dayN_bounds m d h
  unfold lun psn
  by_cases h1 : dayN m d < 354
  · rw [if_pos h1, if_pos h1]
    split <;> omega
  · rw [if_neg h1, if_neg h1]
    omega
theorem rBears_of (m d l : Int) (w : World) :
    Calls Tryz.prog 38 #[.int .i64 m, .int .i64 d, .int .i64 l] w fun e w' => e = .returned (.bool (bears m d l)) ∧ Kept w w' := by
  by_cases h : Ex m d
  · have KO := Lib.hid (rPosition_ok m d w h)
    have hb : bears m d l = decide (l ∈ onD m d) := by simp [bears, h]
    rw [hb]
    obtain ⟨l1, l2, p1, p2, _⟩ := lun_psn_bounds m d h
    unfold onD
    clear hb h
    generalize lun (dayN m d) = n at *
    generalize psn (dayN m d) = p at *
    unfold onL
    by_cases e : n % 2 = 0
    · rw [if_pos e]
      by_cases e1 : l = 30 - p
      · have hr : decide (l ∈ if p = 5 then [31, 25] else [30 - p]) = true := by
          split
          · simp; omega
          · simp [e1]
        rw [hr]
        clear hr
        go_enter Tryz.func38, Tryz.ntmps38
        go_wp2_with (go_at_call 85; refine (KO.out).mono ?_; rintro e w1 ⟨rfl, hk1⟩)
        go_ret
        exact ⟨by first | rfl | (show Ending.returned (Value.bool _) = Ending.returned (Value.bool _); simp [*]; done) | (show Ending.returned (Value.bool _) = Ending.returned (Value.bool _); simp; omega), (by repeat (first | with_reducible exact Kept.refl _ | with_reducible assumption | with_reducible refine Kept.drew ?_ | with_reducible refine Kept.drewN ?_ _ | with_reducible refine Kept.alloc ?_ _ | (with_reducible refine Kept.setCell ?_ (by first | exact Nat.le_refl _ | omega | (simp; done) | (simp; omega)) _) | (with_reducible refine Kept.trans ?_ (by with_reducible assumption))))⟩
      · by_cases e2 : l = 31
        · by_cases e3 : p = 5
          · subst e3
            subst e2
            go_enter Tryz.func38, Tryz.ntmps38
            go_wp2_with (go_at_call 85; refine (KO.out).mono ?_; rintro e w1 ⟨rfl, hk1⟩)
            go_ret
            exact ⟨by first | rfl | (show Ending.returned (Value.bool _) = Ending.returned (Value.bool _); simp [*]; done) | (show Ending.returned (Value.bool _) = Ending.returned (Value.bool _); simp; omega), (by repeat (first | with_reducible exact Kept.refl _ | with_reducible assumption | with_reducible refine Kept.drew ?_ | with_reducible refine Kept.drewN ?_ _ | with_reducible refine Kept.alloc ?_ _ | (with_reducible refine Kept.setCell ?_ (by first | exact Nat.le_refl _ | omega | (simp; done) | (simp; omega)) _) | (with_reducible refine Kept.trans ?_ (by with_reducible assumption))))⟩
          · rw [if_neg e3, show decide (l ∈ [30 - p]) = false by simp [e1]]
            go_enter Tryz.func38, Tryz.ntmps38
            go_wp2_with (go_at_call 85; refine (KO.out).mono ?_; rintro e w1 ⟨rfl, hk1⟩)
            go_ret
            exact ⟨by first | rfl | (show Ending.returned (Value.bool _) = Ending.returned (Value.bool _); simp [*]; done) | (show Ending.returned (Value.bool _) = Ending.returned (Value.bool _); simp; omega), (by repeat (first | with_reducible exact Kept.refl _ | with_reducible assumption | with_reducible refine Kept.drew ?_ | with_reducible refine Kept.drewN ?_ _ | with_reducible refine Kept.alloc ?_ _ | (with_reducible refine Kept.setCell ?_ (by first | exact Nat.le_refl _ | omega | (simp; done) | (simp; omega)) _) | (with_reducible refine Kept.trans ?_ (by with_reducible assumption))))⟩
        · have hr : decide (l ∈ if p = 5 then [31, 25] else [30 - p]) = false := by
            split
            · simp; omega
            · simp [e1]
          rw [hr]
          clear hr
          go_enter Tryz.func38, Tryz.ntmps38
          go_wp2_with (go_at_call 85; refine (KO.out).mono ?_; rintro e w1 ⟨rfl, hk1⟩)
          go_ret
          exact ⟨by first | rfl | (show Ending.returned (Value.bool _) = Ending.returned (Value.bool _); simp [*]; done) | (show Ending.returned (Value.bool _) = Ending.returned (Value.bool _); simp; omega), (by repeat (first | with_reducible exact Kept.refl _ | with_reducible assumption | with_reducible refine Kept.drew ?_ | with_reducible refine Kept.drewN ?_ _ | with_reducible refine Kept.alloc ?_ _ | (with_reducible refine Kept.setCell ?_ (by first | exact Nat.le_refl _ | omega | (simp; done) | (simp; omega)) _) | (with_reducible refine Kept.trans ?_ (by with_reducible assumption))))⟩
    · have e0 : n % 2 = 1 := by omega
      rw [if_neg e]
      by_cases g4 : p ≤ 4
      · rw [if_neg (show ¬ p = 5 by omega), if_neg (show ¬ 5 < p by omega)]
        by_cases e1 : l = 30 - p
        · have hr : decide (l ∈ if p = 4 then [31, 26] else [30 - p]) = true := by
            split
            · simp; omega
            · simp [e1]
          rw [hr]
          clear hr
          go_enter Tryz.func38, Tryz.ntmps38
          go_wp2_with (go_at_call 85; refine (KO.out).mono ?_; rintro e w1 ⟨rfl, hk1⟩)
          go_ret
          exact ⟨by first | rfl | (show Ending.returned (Value.bool _) = Ending.returned (Value.bool _); simp [*]; done) | (show Ending.returned (Value.bool _) = Ending.returned (Value.bool _); simp; omega), (by repeat (first | with_reducible exact Kept.refl _ | with_reducible assumption | with_reducible refine Kept.drew ?_ | with_reducible refine Kept.drewN ?_ _ | with_reducible refine Kept.alloc ?_ _ | (with_reducible refine Kept.setCell ?_ (by first | exact Nat.le_refl _ | omega | (simp; done) | (simp; omega)) _) | (with_reducible refine Kept.trans ?_ (by with_reducible assumption))))⟩
        · by_cases e2 : l = 31
          · by_cases e3 : p = 4
            · subst e3
              subst e2
              go_enter Tryz.func38, Tryz.ntmps38
              go_wp2_with (go_at_call 85; refine (KO.out).mono ?_; rintro e w1 ⟨rfl, hk1⟩)
              go_ret
              exact ⟨by first | rfl | (show Ending.returned (Value.bool _) = Ending.returned (Value.bool _); simp [*]; done) | (show Ending.returned (Value.bool _) = Ending.returned (Value.bool _); simp; omega), (by repeat (first | with_reducible exact Kept.refl _ | with_reducible assumption | with_reducible refine Kept.drew ?_ | with_reducible refine Kept.drewN ?_ _ | with_reducible refine Kept.alloc ?_ _ | (with_reducible refine Kept.setCell ?_ (by first | exact Nat.le_refl _ | omega | (simp; done) | (simp; omega)) _) | (with_reducible refine Kept.trans ?_ (by with_reducible assumption))))⟩
            · rw [if_neg e3, show decide (l ∈ [30 - p]) = false by simp [e1]]
              go_enter Tryz.func38, Tryz.ntmps38
              go_wp2_with (go_at_call 85; refine (KO.out).mono ?_; rintro e w1 ⟨rfl, hk1⟩)
              go_ret
              exact ⟨by first | rfl | (show Ending.returned (Value.bool _) = Ending.returned (Value.bool _); simp [*]; done) | (show Ending.returned (Value.bool _) = Ending.returned (Value.bool _); simp; omega), (by repeat (first | with_reducible exact Kept.refl _ | with_reducible assumption | with_reducible refine Kept.drew ?_ | with_reducible refine Kept.drewN ?_ _ | with_reducible refine Kept.alloc ?_ _ | (with_reducible refine Kept.setCell ?_ (by first | exact Nat.le_refl _ | omega | (simp; done) | (simp; omega)) _) | (with_reducible refine Kept.trans ?_ (by with_reducible assumption))))⟩
          · have hr : decide (l ∈ if p = 4 then [31, 26] else [30 - p]) = false := by
              split
              · simp; omega
              · simp [e1]
            rw [hr]
            clear hr
            go_enter Tryz.func38, Tryz.ntmps38
            go_wp2_with (go_at_call 85; refine (KO.out).mono ?_; rintro e w1 ⟨rfl, hk1⟩)
            go_ret
            exact ⟨by first | rfl | (show Ending.returned (Value.bool _) = Ending.returned (Value.bool _); simp [*]; done) | (show Ending.returned (Value.bool _) = Ending.returned (Value.bool _); simp; omega), (by repeat (first | with_reducible exact Kept.refl _ | with_reducible assumption | with_reducible refine Kept.drew ?_ | with_reducible refine Kept.drewN ?_ _ | with_reducible refine Kept.alloc ?_ _ | (with_reducible refine Kept.setCell ?_ (by first | exact Nat.le_refl _ | omega | (simp; done) | (simp; omega)) _) | (with_reducible refine Kept.trans ?_ (by with_reducible assumption))))⟩
      · rw [if_neg (show ¬ p = 4 by omega)]
        by_cases e5 : p = 5
        · rw [if_pos e5]
          subst e5
          by_cases e1 : l = 25
          · subst e1
            go_enter Tryz.func38, Tryz.ntmps38
            go_wp2_with (go_at_call 85; refine (KO.out).mono ?_; rintro e w1 ⟨rfl, hk1⟩)
            go_ret
            exact ⟨by first | rfl | (show Ending.returned (Value.bool _) = Ending.returned (Value.bool _); simp [*]; done) | (show Ending.returned (Value.bool _) = Ending.returned (Value.bool _); simp; omega), (by repeat (first | with_reducible exact Kept.refl _ | with_reducible assumption | with_reducible refine Kept.drew ?_ | with_reducible refine Kept.drewN ?_ _ | with_reducible refine Kept.alloc ?_ _ | (with_reducible refine Kept.setCell ?_ (by first | exact Nat.le_refl _ | omega | (simp; done) | (simp; omega)) _) | (with_reducible refine Kept.trans ?_ (by with_reducible assumption))))⟩
          · rw [show decide (l ∈ [25, 24]) = decide (l = 24) by simp [e1]]
            go_enter Tryz.func38, Tryz.ntmps38
            go_wp2_with (go_at_call 85; refine (KO.out).mono ?_; rintro e w1 ⟨rfl, hk1⟩)
            go_ret
            exact ⟨by first | rfl | (show Ending.returned (Value.bool _) = Ending.returned (Value.bool _); simp [*]; done) | (show Ending.returned (Value.bool _) = Ending.returned (Value.bool _); congr 2; rw [Bool.eq_iff_iff]; simp [*]; done), (by repeat (first | with_reducible exact Kept.refl _ | with_reducible assumption | with_reducible refine Kept.drew ?_ | with_reducible refine Kept.drewN ?_ _ | with_reducible refine Kept.alloc ?_ _ | (with_reducible refine Kept.setCell ?_ (by first | exact Nat.le_refl _ | omega | (simp; done) | (simp; omega)) _) | (with_reducible refine Kept.trans ?_ (by with_reducible assumption))))⟩
        · rw [if_neg e5, if_pos (show 5 < p by omega), show decide (l ∈ [29 - p]) = decide (l = 29 - p) by simp]
          go_enter Tryz.func38, Tryz.ntmps38
          go_wp2_with (go_at_call 85; refine (KO.out).mono ?_; rintro e w1 ⟨rfl, hk1⟩)
          go_ret
          exact ⟨by first | rfl | (show Ending.returned (Value.bool _) = Ending.returned (Value.bool _); simp [*]; done) | (show Ending.returned (Value.bool _) = Ending.returned (Value.bool _); congr 2; rw [Bool.eq_iff_iff]; simp [*]; done), (by repeat (first | with_reducible exact Kept.refl _ | with_reducible assumption | with_reducible refine Kept.drew ?_ | with_reducible refine Kept.drewN ?_ _ | with_reducible refine Kept.alloc ?_ _ | (with_reducible refine Kept.setCell ?_ (by first | exact Nat.le_refl _ | omega | (simp; done) | (simp; omega)) _) | (with_reducible refine Kept.trans ?_ (by with_reducible assumption))))⟩
  · have KO := Lib.hid (rPosition_no m d w h)
    have hb : bears m d l = false := by simp [bears, h]
    rw [hb]
    clear hb h
    go_enter Tryz.func38, Tryz.ntmps38
    go_wp2_with (go_at_call 85; refine (KO.out).mono ?_; rintro e w1 ⟨rfl, hk1⟩)
    go_ret
    exact ⟨by first | rfl | (show Ending.returned (Value.bool _) = Ending.returned (Value.bool _); simp [*]; done) | (show Ending.returned (Value.bool _) = Ending.returned (Value.bool _); simp; omega), (by repeat (first | with_reducible exact Kept.refl _ | with_reducible assumption | with_reducible refine Kept.drew ?_ | with_reducible refine Kept.drewN ?_ _ | with_reducible refine Kept.alloc ?_ _ | (with_reducible refine Kept.setCell ?_ (by first | exact Nat.le_refl _ | omega | (simp; done) | (simp; omega)) _) | (with_reducible refine Kept.trans ?_ (by with_reducible assumption))))⟩
end Go.Proofs.YtblaphkaklocfaaGreatDoor
/- Contract: reference 08: Numbers. -/
namespace Go.Proofs.YtblaphkaklocfaaGreatDoor
open Go.ChangeShapes Go.WideShapes Go.ChangeAt Go.RowKit
set_option maxHeartbeats 800000

/-- The slice .slice o L.length _ holds the numbers L. -/
def IsInts (w : World) (o : Option Addr) (L : List Int) : Prop := ∀ j, j < L.length → ∃ b, o = some ⟨b, 0, none⟩ ∧ w.cell? ⟨b, j, none⟩ = some (.int .i64 L[j]!)
theorem isInts_nil (w : World) (o : Option Addr) : IsInts w o [] := fun j h => absurd h (Nat.not_lt_zero _)
theorem IsInts.kept {w w' : World} {o : Option Addr} {L : List Int} (h : IsInts w o L) (k : Kept w w') : IsInts w' o L := fun j hj => by
  obtain ⟨b, e, hc⟩ := h j hj
  exact ⟨b, e, (k.cell _ _ (lt_cellL hc)).trans hc⟩
theorem isInts_lies {w : World} {b : Nat} {L : List Int} (h : Lies w b L) : IsInts w (some ⟨b, 0, none⟩) L := fun j hj => ⟨b, rfl, h j hj⟩
end Go.Proofs.YtblaphkaklocfaaGreatDoor

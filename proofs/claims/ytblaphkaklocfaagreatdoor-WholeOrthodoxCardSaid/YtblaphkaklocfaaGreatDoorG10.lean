/- Contracts and plain lemmas: Idt, Sea, Sea2, Cat0. -/
import Derived.Test.YtblaphkaklocfaaGreatDoorRows
import Derived.Test.YtblaphkaklocfaaGreatDoorG01
import Derived.Test.YtblaphkaklocfaaGreatDoorG09
import Derived.WalkKit
import Derived.Outline
import Derived.Maps.OwnSet
import Derived.Maps.Views
import Derived.StringKeys
set_option linter.unusedSimpArgs false
set_option linter.unusedVariables false
set_option linter.unusedSectionVars false
/- Contracts: catalogue.Identifier and its reference. -/
namespace Go.Proofs.YtblaphkaklocfaaGreatDoor
open Go.ChangeShapes Go.WideShapes Go.ChangeAt Go.RowKit
set_option maxHeartbeats 1000000
set_option maxRecDepth 20000

/-- The byte at a place. -/
def bt (s : ByteArray) (i : Nat) : Int := if h : i < s.size then ((s[i]'h).toNat : Int) else 0
theorem bt_at (s : ByteArray) (i : Nat) (h : i < s.size) : bt s i = ((s[i]'h).toNat : Int) := dif_pos h
theorem bt_range (s : ByteArray) (i : Nat) : 0 ≤ bt s i ∧ bt s i ≤ 255 := by
  unfold bt
  split
  · rename_i h
    have := (s[i]'h).toNat_lt
    omega
  · omega
/-- A byte that may stand at its place in an identifier, but for a hyphen at the end. -/
def okC (s : ByteArray) (i : Nat) : Prop := (97 ≤ bt s i ∧ bt s i ≤ 122) ∨ (48 ≤ bt s i ∧ bt s i ≤ 57 ∧ 0 < i) ∨ (bt s i = 45 ∧ 0 < i ∧ bt s (i - 1) ≠ 45)
instance (s : ByteArray) (i : Nat) : Decidable (okC s i) := by unfold okC; infer_instance
def idP (s : ByteArray) : Prop := 1 ≤ s.size ∧ s.size ≤ 40 ∧ (∀ i, i < s.size → okC s i) ∧ bt s (s.size - 1) ≠ 45
instance (s : ByteArray) : Decidable (idP s) := by unfold idP; infer_instance
def idB (s : ByteArray) : Bool := decide (idP s)
/-- The character before a place; a hyphen ahead of all. -/
def bf (s : ByteArray) (i : Nat) : Int := if i = 0 then 45 else bt s (i - 1)
theorem idB_no (s : ByteArray) (i : Nat) (h : i < s.size) (hn : ¬ okC s i) : idB s = false := by
  unfold idB
  rw [decide_eq_false_iff_not]
  exact fun g => hn (g.2.2.1 i h)
theorem idB_end (s : ByteArray) (h : ∀ i, i < s.size → okC s i) : idB s = decide (s.size ≤ 40 ∧ bf s s.size ≠ 45) := by
  unfold idB idP bf
  apply decide_eq_decide.mpr
  by_cases g : s.size = 0
  · rw [if_pos g]; omega
  · rw [if_neg g]
    constructor
    · exact fun q => ⟨q.2.1, q.2.2.2⟩
    · exact fun q => ⟨by omega, q.1, h, q.2⟩
theorem okC_iff (s : ByteArray) (i : Nat) : okC s i ↔ (97 ≤ bt s i ∧ bt s i ≤ 122) ∨ (48 ≤ bt s i ∧ bt s i ≤ 57 ∧ 0 < i) ∨ (bt s i = 45 ∧ bf s i ≠ 45) := by
  unfold okC bf
  by_cases g : i = 0
  · rw [if_pos g]; omega
  · rw [if_neg g]; omega
theorem bf_range (s : ByteArray) (i : Nat) : 0 ≤ bf s i ∧ bf s i ≤ 255 := by
  unfold bf
  split
  · omega
  · exact bt_range s _
theorem kept_iter (w : World) (s : ByteArray) (pos : Nat) : Kept w (w.iter s pos) := (Kept.refl w).alloc _
set_option maxHeartbeats 2000000 in
theorem Ident_any (s : ByteArray) (w : World) :
    Calls Tryz.prog 248 #[.string s] w fun e w' => e = .returned (.bool (idB s)) ∧ Kept w w' := by
  go_enter Tryz.func248, Tryz.ntmps248
  go_wp2
  go_loopw [3] (fun n wr => ∃ pos : Nat, pos ≤ s.size ∧ wr = w.iter s pos ∧ n = .int .i32 (bf s pos) ∧ Hid (∀ i, i < pos → okC s i)) (fun _ wr => s.size - wr.iterPos w.heap.size)
  case atStart => exact ⟨0, by omega, rfl, rfl, fun i h => absurd h (Nat.not_lt_zero _)⟩
  case round =>
    obtain ⟨pos, hle, rfl, rfl, HP⟩ := hrel
    by_cases hp : pos < s.size
    · have hr := bt_range s pos
      have HI := Lib.hid (okC_iff s pos)
      have hb := bf_range s pos
      by_cases ha : (s[pos]'hp).toNat < 128
      · have hnx : ∀ ty, (Instr.next (.pointer (some ⟨w.heap.size, 0, none⟩)) true ty).run Tryz.prog (w.iter s pos) = _ := fun ty => run_next_ascii w s pos ty hp ha
        rw [← bt_at s pos hp] at hnx
        have hbn : bf s (pos + 1) = bt s pos := by unfold bf; rw [if_neg (by omega), Nat.add_sub_cancel]
        have HN := Lib.hid hbn
        have HQ : Hid (okC s pos → ∀ i, i < pos + 1 → okC s i) := (show _ → _ from fun h i hi => by
          by_cases e : i = pos
          · subst e; exact h
          · exact HP.out i (by omega))
        have HX : Hid (¬ okC s pos → idB s = false) := (show _ → _ from fun h => idB_no s pos hp h)
        clear hbn
        generalize bt s pos = c at *
        generalize hbf : bf s pos = b at *
        by_cases h1 : 97 ≤ c ∧ c ≤ 122
        · have HK := Lib.hid (HQ.out (HI.out.mpr (.inl h1)))
          obtain ⟨h1, h2⟩ := h1
          go_wp2
          go_roundw
          case rel => exact ⟨pos + 1, by omega, rfl, by rw [HN.out], HK⟩
          case measure => simp; omega
        · by_cases h2 : 48 ≤ c ∧ c ≤ 57
          · obtain ⟨h2, h3⟩ := h2
            by_cases h4 : 0 < pos
            · have HK := Lib.hid (HQ.out (HI.out.mpr (.inr (.inl ⟨h2, h3, h4⟩))))
              go_wp2
              go_roundw
              case rel => exact ⟨pos + 1, by omega, rfl, by rw [HN.out], HK⟩
              case measure => simp; omega
            · obtain rfl : pos = 0 := by omega
              have HF := HX.out (fun g => by have := HI.out.mp g; have e : b = 45 := hbf.symm; omega)
              clear h1 HX HI HQ hbf
              go_wp2
              go_ret
              exact ⟨by first | rfl | (rw [HF]; rfl), kept_iter _ _ _⟩
          · by_cases h4 : c = 45
            · by_cases h5 : b = 45
              · have HF := HX.out (fun g => by have := HI.out.mp g; omega)
                subst h4 h5
                clear h1 h2 HX HI HQ hbf
                go_wp2
                go_ret
                exact ⟨by first | rfl | (rw [HF]; rfl), kept_iter _ _ _⟩
              · have HK := Lib.hid (HQ.out (HI.out.mpr (.inr (.inr ⟨h4, h5⟩))))
                have g5 : (b == 45) = false := beq_false_of_ne h5
                subst h4
                clear h1 h2 HX HI HQ hbf
                go_wp2
                go_roundw
                case rel => exact ⟨pos + 1, by omega, rfl, by rw [HN.out], HK⟩
                case measure => simp; omega
            · have HF := HX.out (fun g => by have := HI.out.mp g; omega)
              have g4 : (c == 45) = false := beq_false_of_ne h4
              have hc : c < 48 ∨ (57 < c ∧ c < 97) ∨ 122 < c := by omega
              clear h1 h2 HX HI HQ hbf h4
              rcases hc with hc | ⟨hc, hc2⟩ | hc
              · go_wp2
                go_ret
                exact ⟨by first | rfl | (rw [HF]; rfl), kept_iter _ _ _⟩
              · go_wp2
                go_ret
                exact ⟨by first | rfl | (rw [HF]; rfl), kept_iter _ _ _⟩
              · have g6 : decide (c ≤ 122) = false := decide_eq_false (by omega)
                go_wp2
                go_ret
                exact ⟨by first | rfl | (rw [HF]; rfl), kept_iter _ _ _⟩
      · have hnx : ∀ ty, (Instr.next (.pointer (some ⟨w.heap.size, 0, none⟩)) true ty).run Tryz.prog (w.iter s pos) = _ := fun ty => run_next_any w s pos ty hp
        have hh := (decode_high s pos hp (by omega)).1
        have hh2 := decode_le s pos
        have HF := idB_no s pos hp (fun g => by have := HI.out.mp g; have e := bt_at s pos hp; omega)
        have HW := Lib.hid (kept_iter w s (pos + (Utf8.decode s pos).2))
        generalize (pos + (Utf8.decode s pos).2) = p2 at *
        generalize (Utf8.decode s pos).1 = r at *
        have g4 : ((r : Int) == 45) = false := beq_false_of_ne (by omega)
        have g5 : (122 : Int) < r := by omega
        have g6 : decide ((r : Int) ≤ 122) = false := decide_eq_false (by omega)
        clear HI hr ha
        go_wp2
        go_ret
        exact ⟨by first | rfl | (rw [HF]; rfl), HW.out⟩
    · obtain rfl : pos = s.size := by omega
      have hnx : ∀ ty, (Instr.next (.pointer (some ⟨w.heap.size, 0, none⟩)) true ty).run Tryz.prog (w.iter s s.size) = _ := fun ty => run_next_end w s s.size ty hp
      have HE := Lib.hid (idB_end s HP.out)
      generalize bf s s.size = b at *
      by_cases h1 : s.size ≤ 40
      · by_cases h2 : b = 45
        · have HF : idB s = false := by rw [HE.out, decide_eq_false_iff_not]; omega
          subst h2
          clear HE
          go_wp2
          go_ret
          exact ⟨by first | rfl | (rw [HF]; rfl), kept_iter _ _ _⟩
        · have HF : idB s = true := by rw [HE.out, decide_eq_true_eq]; omega
          have g5 : (b == 45) = false := beq_false_of_ne h2
          clear HE
          go_wp2
          go_ret
          exact ⟨by first | rfl | (rw [HF]; rfl) | (rw [HF]; show Ending.returned (Value.bool (b != 45)) = _; rw [bne, g5]; rfl), kept_iter _ _ _⟩
      · have HF : idB s = false := by rw [HE.out, decide_eq_false_iff_not]; omega
        clear HE
        go_wp2
        go_ret
        exact ⟨by first | rfl | (rw [HF]; rfl), kept_iter _ _ _⟩
/-- A byte that the reference lets stand. -/
def okR (s : ByteArray) (i : Nat) : Prop := (97 ≤ bt s i ∧ bt s i ≤ 122) ∨ (48 ≤ bt s i ∧ bt s i ≤ 57 ∧ 0 < i) ∨ (bt s i = 45 ∧ 0 < i ∧ i ≠ s.size - 1 ∧ bt s (i - 1) ≠ 45)
theorem idB_R (s : ByteArray) (h1 : 1 ≤ s.size) (h2 : s.size ≤ 40) : idB s = true ↔ ∀ i, i < s.size → okR s i := by
  unfold idB
  rw [decide_eq_true_eq]
  constructor
  · intro ⟨_, _, h, hl⟩ i hi
    have := h i hi
    unfold okC at this
    unfold okR
    by_cases e : i = s.size - 1
    · subst e; omega
    · omega
  · intro h
    refine ⟨h1, h2, fun i hi => ?_, fun hl => ?_⟩
    · have := h i hi
      unfold okR at this
      unfold okC
      omega
    · have := h (s.size - 1) (by omega)
      unfold okR at this
      omega
set_option maxHeartbeats 2000000 in
theorem rIdent_any (s : ByteArray) (w : World) :
    Calls Tryz.prog 59 #[.string s] w fun e w' => e = .returned (.bool (idB s)) ∧ Kept w w' := by
  by_cases h1 : 1 ≤ s.size
  · by_cases h2 : s.size ≤ 40
    · have HI := Lib.hid (idB_R s h1 h2)
      go_enter Tryz.func59, Tryz.ntmps59
      go_wp2
      go_loopw [3] (fun n wr => ∃ pos : Nat, pos ≤ s.size ∧ n = .int .i64 pos ∧ Kept w wr ∧ Hid (∀ i, i < pos → okR s i)) (fun n _ => (s.size - intOf n).toNat)
      case atStart => exact ⟨0, by omega, rfl, (by repeat (first | with_reducible exact Kept.refl _ | with_reducible assumption | with_reducible refine Kept.drew ?_ | with_reducible refine Kept.drewN ?_ _ | with_reducible refine Kept.alloc ?_ _ | (with_reducible refine Kept.setCell ?_ (by first | exact Nat.le_refl _ | omega | (simp; done) | (simp; omega)) _) | (with_reducible refine Kept.trans ?_ (by with_reducible assumption)))), fun i h => absurd h (Nat.not_lt_zero _)⟩
      case round =>
        obtain ⟨pos, hle, rfl, hkw, HP⟩ := hrel
        by_cases hp : pos < s.size
        · have hb1 := bt_at s pos hp
          have hr := bt_range s pos
          have hp1 : pos - 1 < s.size := by omega
          have hb2 := bt_at s (pos - 1) hp1
          have hr2 := bt_range s (pos - 1)
          have HQ : Hid (okR s pos → ∀ i, i < pos + 1 → okR s i) := (show _ → _ from fun h i hi => by
            by_cases e : i = pos
            · subst e; exact h
            · exact HP.out i (by omega))
          have HX : Hid (¬ okR s pos → idB s = false) := (show _ → _ from fun h => by
            cases hb : idB s with
            | false => rfl
            | true => exact absurd (HI.out.mp hb pos hp) h)
          have HO : Hid (okR s pos ↔ (97 ≤ bt s pos ∧ bt s pos ≤ 122) ∨ (48 ≤ bt s pos ∧ bt s pos ≤ 57 ∧ 0 < pos) ∨ (bt s pos = 45 ∧ 0 < pos ∧ pos ≠ s.size - 1 ∧ bt s (pos - 1) ≠ 45)) := (show _ ↔ _ from Iff.rfl)
          clear HP
          generalize bt s pos = c at *
          generalize bt s (pos - 1) = cp at *
          replace hb1 := hb1.symm
          replace hb2 := hb2.symm
          by_cases g1 : 97 ≤ c ∧ c ≤ 122
          · have HK := Lib.hid (HQ.out (HO.out.mpr (.inl g1)))
            obtain ⟨g1, g2⟩ := g1
            clear HQ HO HX
            go_wp2
            go_roundw
            case rel => exact ⟨pos + 1, by omega, by go_num, hkw, HK⟩
            case measure => simp [intOf]; omega
          · by_cases g2 : 48 ≤ c ∧ c ≤ 57
            · obtain ⟨g2, g3⟩ := g2
              by_cases g4 : 0 < pos
              · have HK := Lib.hid (HQ.out (HO.out.mpr (.inr (.inl ⟨g2, g3, g4⟩))))
                clear HQ HO HX
                go_wp2
                go_roundw
                case rel => exact ⟨pos + 1, by omega, by go_num, hkw, HK⟩
                case measure => simp [intOf]; omega
              · have HF := HX.out (fun g => by have := HO.out.mp g; omega)
                obtain rfl : pos = 0 := by omega
                have g5 : (c == 45) = false := beq_false_of_ne (by omega)
                clear HQ HO HX g1
                go_wp2
                go_ret
                exact ⟨by first | rfl | (rw [HF]; rfl), hkw⟩
            · by_cases g3 : c = 45
              · by_cases g4 : pos = 0
                · have HF := HX.out (fun g => by have := HO.out.mp g; omega)
                  clear hb2 hr2
                  subst g4 g3
                  clear HQ HO HX g1 g2
                  go_wp2
                  go_ret
                  exact ⟨by first | rfl | (rw [HF]; rfl), hkw⟩
                · have g5 : ((pos : Int) == 0) = false := beq_false_of_ne (by omega)
                  have g5' : (1 : Int) ≤ (pos : Int) := by omega
                  by_cases g6 : pos = s.size - 1
                  · have HF := HX.out (fun g => by have := HO.out.mp g; omega)
                    have g7 : (pos : Int) = (s.size : Int) - 1 := by omega
                    have g8 : ((pos : Int) == (s.size : Int) - 1) = true := by rw [beq_iff_eq]; exact g7
                    subst g3
                    clear HQ HO HX g1 g2 g6 g7
                    go_wp2
                    go_ret
                    exact ⟨by first | rfl | (rw [HF]; rfl), hkw⟩
                  · have g7 : ((pos : Int) == (s.size : Int) - 1) = false := beq_false_of_ne (by omega)
                    by_cases g8 : cp = 45
                    · have HF := HX.out (fun g => by have := HO.out.mp g; omega)
                      subst g3 g8
                      clear HQ HO HX g1 g2
                      go_wp2
                      go_ret
                      exact ⟨by first | rfl | (rw [HF]; rfl), hkw⟩
                    · have HK := Lib.hid (HQ.out (HO.out.mpr (.inr (.inr ⟨g3, by omega, g6, g8⟩))))
                      have g9 : (cp == 45) = false := beq_false_of_ne g8
                      subst g3
                      clear HQ HO HX g1 g2
                      go_wp2
                      go_roundw
                      case rel => exact ⟨pos + 1, by omega, by go_num, hkw, HK⟩
                      case measure => simp [intOf]; omega
              · have HF := HX.out (fun g => by have := HO.out.mp g; omega)
                have g5 : (c == 45) = false := beq_false_of_ne g3
                have hc : c < 48 ∨ (57 < c ∧ c < 97) ∨ 122 < c := by omega
                clear HQ HO HX g1 g2
                rcases hc with hc | ⟨hc, hc2⟩ | hc
                · go_wp2
                  go_ret
                  exact ⟨by first | rfl | (rw [HF]; rfl), hkw⟩
                · go_wp2
                  go_ret
                  exact ⟨by first | rfl | (rw [HF]; rfl), hkw⟩
                · have g6 : decide (c ≤ 122) = false := decide_eq_false (by omega)
                  go_wp2
                  go_ret
                  exact ⟨by first | rfl | (rw [HF]; rfl), hkw⟩
        · obtain rfl : pos = s.size := by omega
          have HF := HI.out.mpr HP.out
          go_wp2
          go_ret
          exact ⟨by first | rfl | (rw [HF]; rfl), hkw⟩
    · have HF : idB s = false := by unfold idB; rw [decide_eq_false_iff_not]; exact fun g => h2 g.2.1
      rw [HF]
      clear HF
      go_enter Tryz.func59, Tryz.ntmps59
      go_wp2
      go_ret
      exact ⟨rfl, (by repeat (first | with_reducible exact Kept.refl _ | with_reducible assumption | with_reducible refine Kept.drew ?_ | with_reducible refine Kept.drewN ?_ _ | with_reducible refine Kept.alloc ?_ _ | (with_reducible refine Kept.setCell ?_ (by first | exact Nat.le_refl _ | omega | (simp; done) | (simp; omega)) _) | (with_reducible refine Kept.trans ?_ (by with_reducible assumption))))⟩
  · have HF : idB s = false := by unfold idB; rw [decide_eq_false_iff_not]; exact fun g => h1 g.1
    have e : s.size = 0 := by omega
    rw [HF]
    clear HF
    go_enter Tryz.func59, Tryz.ntmps59
    go_wp2
    go_ret
    exact ⟨rfl, (by repeat (first | with_reducible exact Kept.refl _ | with_reducible assumption | with_reducible refine Kept.drew ?_ | with_reducible refine Kept.drewN ?_ _ | with_reducible refine Kept.alloc ?_ _ | (with_reducible refine Kept.setCell ?_ (by first | exact Nat.le_refl _ | omega | (simp; done) | (simp; omega)) _) | (with_reducible refine Kept.trans ?_ (by with_reducible assumption))))⟩
end Go.Proofs.YtblaphkaklocfaaGreatDoor
/- Contracts: seasons and feasts of a catalogue, and their references. -/
namespace Go.Proofs.YtblaphkaklocfaaGreatDoor
open Go.ChangeShapes Go.WideShapes Go.ChangeAt Go.RowKit
set_option maxHeartbeats 1000000
set_option maxRecDepth 20000

def rkB (n : Int) : Bool := decide (1 ≤ n ∧ n ≤ 9)
def poB (n : Int) : Bool := decide (1 ≤ n ∧ n ≤ 3)
theorem rank_any (n : Int) (w : World) : Calls Tryz.prog 249 #[.int .i64 n] w fun e w' => e = .returned (.bool (rkB n)) ∧ w = w' := by
  have hv : rkB n = decide (1 ≤ n ∧ n ≤ 9) := rfl
  by_cases h1 : 1 ≤ n
  · by_cases h2 : n ≤ 9
    · have e : rkB n = true := by rw [hv]; simp [h1, h2]
      rw [e]; clear e hv
      go_enter Tryz.func249, Tryz.ntmps249
      go_wp2
      go_ret
      exact ⟨rfl, rfl⟩
    · have e : rkB n = false := by rw [hv]; simp [h2]
      rw [e]; clear e hv
      have g : decide (n ≤ 9) = false := decide_eq_false h2
      go_enter Tryz.func249, Tryz.ntmps249
      go_wp2
      go_ret
      exact ⟨rfl, rfl⟩
  · have e : rkB n = false := by rw [hv]; simp [h1]
    rw [e]; clear e hv
    go_enter Tryz.func249, Tryz.ntmps249
    go_wp2
    go_ret
    exact ⟨rfl, rfl⟩
/-- A well-formed season; a well-formed feast. -/
def seaB (s : ByteArray) (a b k m d o wd c : Int) : Bool := idB s && (rkB a && (rkB b && ancB k m d o wd c))
def feaB (s : ByteArray) (a b k m d o wd c : Int) : Bool := idB s && (rkB a && (poB b && ancB k m d o wd c))
theorem rk_cases (a : Int) : (rkB a = true ∧ 1 ≤ a ∧ a ≤ 9) ∨ (rkB a = false ∧ (a < 1 ∨ 1 ≤ a ∧ 9 < a)) := by
  unfold rkB
  by_cases h : 1 ≤ a ∧ a ≤ 9
  · exact .inl ⟨decide_eq_true h, h⟩
  · exact .inr ⟨decide_eq_false h, by omega⟩
theorem po_cases (a : Int) : (poB a = true ∧ 1 ≤ a ∧ a ≤ 3) ∨ (poB a = false ∧ (a < 1 ∨ 1 ≤ a ∧ 3 < a)) := by
  unfold poB
  by_cases h : 1 ≤ a ∧ a ≤ 3
  · exact .inl ⟨decide_eq_true h, h⟩
  · exact .inr ⟨decide_eq_false h, by omega⟩
set_option maxHeartbeats 2000000 in
theorem Season_any (s : ByteArray) (a b k m d o wd c : Int) (w : World) (bc : -9223372036854775808 ≤ c ∧ c ≤ 9223372036854775807) :
    Calls Tryz.prog 206 #[.agg #[.string s, .int .i64 a, .int .i64 b, .int .i64 k, .int .i64 m, .int .i64 d, .int .i64 o, .int .i64 wd, .int .i64 c]] w fun e w' => e = .returned (.bool (seaB s a b k m d o wd c)) ∧ Kept w w' := by
  unfold seaB
  have KI := Lib.hid (fun w => Ident_any s w)
  have K1 := Lib.hid (fun w => rank_any a w)
  have K2 := Lib.hid (fun w => rank_any b w)
  have KA := Lib.hid (fun w => ACheck_any k m d o wd c w bc)
  generalize idB s = i at *
  generalize rkB a = r1 at *
  generalize rkB b = r2 at *
  generalize ancB k m d o wd c = r3 at *
  cases i with
  | false =>
    go_enter Tryz.func206, Tryz.ntmps206
    go_wp2_with fail
    (go_at_call 248; refine (KI.out _).mono ?_; rintro e w1 ⟨rfl, hk1⟩)
    have hB1_1 := hk1
    obtain ⟨hc1_1, hf1_1⟩ := kept_cells hB1_1
    have hz1_0_1 : w.heap.size < w1.heap.size := by have := hB1_1.size; simp at this; omega
    go_wp2
    go_ret
    exact ⟨rfl, (by repeat (first | with_reducible exact Kept.refl _ | with_reducible assumption | with_reducible refine Kept.drew ?_ | with_reducible refine Kept.drewN ?_ _ | with_reducible refine Kept.alloc ?_ _ | (with_reducible refine Kept.setCell ?_ (by first | exact Nat.le_refl _ | omega | (simp; done) | (simp; omega)) _) | (with_reducible refine Kept.trans ?_ (by with_reducible assumption))))⟩
  | true =>
    cases r1 with
    | false =>
      go_enter Tryz.func206, Tryz.ntmps206
      go_wp2_with fail
      (go_at_call 248; refine (KI.out _).mono ?_; rintro e w1 ⟨rfl, hk1⟩)
      have hB1_1 := hk1
      obtain ⟨hc1_1, hf1_1⟩ := kept_cells hB1_1
      have hz1_0_1 : w.heap.size < w1.heap.size := by have := hB1_1.size; simp at this; omega
      go_wp2_with fail
      (go_at_call 249; refine (K1.out _).mono ?_; rintro e w1 ⟨rfl, rfl⟩)
      go_wp2
      go_ret
      exact ⟨rfl, (by repeat (first | with_reducible exact Kept.refl _ | with_reducible assumption | with_reducible refine Kept.drew ?_ | with_reducible refine Kept.drewN ?_ _ | with_reducible refine Kept.alloc ?_ _ | (with_reducible refine Kept.setCell ?_ (by first | exact Nat.le_refl _ | omega | (simp; done) | (simp; omega)) _) | (with_reducible refine Kept.trans ?_ (by with_reducible assumption))))⟩
    | true =>
      cases r2 with
      | false =>
        go_enter Tryz.func206, Tryz.ntmps206
        go_wp2_with fail
        (go_at_call 248; refine (KI.out _).mono ?_; rintro e w1 ⟨rfl, hk1⟩)
        have hB1_1 := hk1
        obtain ⟨hc1_1, hf1_1⟩ := kept_cells hB1_1
        have hz1_0_1 : w.heap.size < w1.heap.size := by have := hB1_1.size; simp at this; omega
        go_wp2_with fail
        (go_at_call 249; refine (K1.out _).mono ?_; rintro e w1 ⟨rfl, rfl⟩)
        go_wp2_with fail
        (go_at_call 249; refine (K2.out _).mono ?_; rintro e w1 ⟨rfl, rfl⟩)
        go_wp2
        go_ret
        exact ⟨rfl, (by repeat (first | with_reducible exact Kept.refl _ | with_reducible assumption | with_reducible refine Kept.drew ?_ | with_reducible refine Kept.drewN ?_ _ | with_reducible refine Kept.alloc ?_ _ | (with_reducible refine Kept.setCell ?_ (by first | exact Nat.le_refl _ | omega | (simp; done) | (simp; omega)) _) | (with_reducible refine Kept.trans ?_ (by with_reducible assumption))))⟩
      | true =>
        go_enter Tryz.func206, Tryz.ntmps206
        go_wp2_with fail
        (go_at_call 248; refine (KI.out _).mono ?_; rintro e w1 ⟨rfl, hk1⟩)
        have hB1_1 := hk1
        obtain ⟨hc1_1, hf1_1⟩ := kept_cells hB1_1
        have hz1_0_1 : w.heap.size < w1.heap.size := by have := hB1_1.size; simp at this; omega
        go_wp2_with fail
        (go_at_call 249; refine (K1.out _).mono ?_; rintro e w1 ⟨rfl, rfl⟩)
        go_wp2_with fail
        (go_at_call 249; refine (K2.out _).mono ?_; rintro e w1 ⟨rfl, rfl⟩)
        go_wp2_with fail
        (go_at_call 250; refine (KA.out _).mono ?_; rintro e w2 ⟨rfl, hk2⟩)
        have hB1_2 := Kept.trans hB1_1 hk2
        obtain ⟨hc1_2, hf1_2⟩ := kept_cells hB1_2
        have hz1_0_2 : w.heap.size < w2.heap.size := by have := hB1_2.size; simp at this; omega
        go_wp2
        go_ret
        exact ⟨by first | rfl | (simp; done), (by repeat (first | with_reducible exact Kept.refl _ | with_reducible assumption | with_reducible refine Kept.drew ?_ | with_reducible refine Kept.drewN ?_ _ | with_reducible refine Kept.alloc ?_ _ | (with_reducible refine Kept.setCell ?_ (by first | exact Nat.le_refl _ | omega | (simp; done) | (simp; omega)) _) | (with_reducible refine Kept.trans ?_ (by with_reducible assumption))))⟩
end Go.Proofs.YtblaphkaklocfaaGreatDoor
/- Contracts: feasts of a catalogue, and the references of seasons and feasts. -/
namespace Go.Proofs.YtblaphkaklocfaaGreatDoor
open Go.ChangeShapes Go.WideShapes Go.ChangeAt Go.RowKit
set_option maxHeartbeats 1000000
set_option maxRecDepth 20000

set_option maxHeartbeats 4000000 in
theorem Feast_any (s : ByteArray) (a b k m d o wd c : Int) (w : World) (bc : -9223372036854775808 ≤ c ∧ c ≤ 9223372036854775807) :
    Calls Tryz.prog 207 #[.agg #[.string s, .int .i64 a, .int .i64 b, .int .i64 k, .int .i64 m, .int .i64 d, .int .i64 o, .int .i64 wd, .int .i64 c]] w fun e w' => e = .returned (.bool (feaB s a b k m d o wd c)) ∧ Kept w w' := by
  unfold feaB
  have KI := Lib.hid (fun w => Ident_any s w)
  have KA := Lib.hid (fun w => ACheck_any k m d o wd c w bc)
  have hca := rk_cases a
  have hcb := po_cases b
  have K1 := Lib.hid (fun w => rank_any a w)
  generalize idB s = i at *
  generalize rkB a = r1 at *
  generalize poB b = r2 at *
  generalize ancB k m d o wd c = r3 at *
  cases i with
  | false =>
    clear hca hcb
    go_enter Tryz.func207, Tryz.ntmps207
    go_wp2_with fail
    (go_at_call 248; refine (KI.out _).mono ?_; rintro e w1 ⟨rfl, hk1⟩)
    have hB1_1 := hk1
    obtain ⟨hc1_1, hf1_1⟩ := kept_cells hB1_1
    have hz1_0_1 : w.heap.size < w1.heap.size := by have := hB1_1.size; simp at this; omega
    go_wp2
    go_ret
    exact ⟨by first | rfl | (simp; done), (by repeat (first | with_reducible exact Kept.refl _ | with_reducible assumption | with_reducible refine Kept.drew ?_ | with_reducible refine Kept.drewN ?_ _ | with_reducible refine Kept.alloc ?_ _ | (with_reducible refine Kept.setCell ?_ (by first | exact Nat.le_refl _ | omega | (simp; done) | (simp; omega)) _) | (with_reducible refine Kept.trans ?_ (by with_reducible assumption))))⟩
  | true =>
    rcases hca with ⟨rfl, ha1, ha2⟩ | ⟨rfl, hca⟩
    · rcases hcb with ⟨rfl, hb1, hb2⟩ | ⟨rfl, hcb⟩
      · have hz : True := trivial
        go_enter Tryz.func207, Tryz.ntmps207
        go_wp2_with fail
        (go_at_call 248; refine (KI.out _).mono ?_; rintro e w1 ⟨rfl, hk1⟩)
        have hB1_1 := hk1
        obtain ⟨hc1_1, hf1_1⟩ := kept_cells hB1_1
        have hz1_0_1 : w.heap.size < w1.heap.size := by have := hB1_1.size; simp at this; omega
        go_wp2_with fail
        (go_at_call 249; refine (K1.out _).mono ?_; rintro e w1 ⟨rfl, rfl⟩)
        go_wp2_with fail
        (go_at_call 250; refine (KA.out _).mono ?_; rintro e w2 ⟨rfl, hk2⟩)
        have hB1_2 := Kept.trans hB1_1 hk2
        obtain ⟨hc1_2, hf1_2⟩ := kept_cells hB1_2
        have hz1_0_2 : w.heap.size < w2.heap.size := by have := hB1_2.size; simp at this; omega
        go_wp2
        go_ret
        exact ⟨by first | rfl | (simp; done), (by repeat (first | with_reducible exact Kept.refl _ | with_reducible assumption | with_reducible refine Kept.drew ?_ | with_reducible refine Kept.drewN ?_ _ | with_reducible refine Kept.alloc ?_ _ | (with_reducible refine Kept.setCell ?_ (by first | exact Nat.le_refl _ | omega | (simp; done) | (simp; omega)) _) | (with_reducible refine Kept.trans ?_ (by with_reducible assumption))))⟩
      · rcases hcb with hb | ⟨hb, hb2⟩
        · have hz : True := trivial
          go_enter Tryz.func207, Tryz.ntmps207
          go_wp2_with fail
          (go_at_call 248; refine (KI.out _).mono ?_; rintro e w1 ⟨rfl, hk1⟩)
          have hB1_1 := hk1
          obtain ⟨hc1_1, hf1_1⟩ := kept_cells hB1_1
          have hz1_0_1 : w.heap.size < w1.heap.size := by have := hB1_1.size; simp at this; omega
          go_wp2_with fail
          (go_at_call 249; refine (K1.out _).mono ?_; rintro e w1 ⟨rfl, rfl⟩)
          go_wp2
          go_ret
          exact ⟨by first | rfl | (simp; done), (by repeat (first | with_reducible exact Kept.refl _ | with_reducible assumption | with_reducible refine Kept.drew ?_ | with_reducible refine Kept.drewN ?_ _ | with_reducible refine Kept.alloc ?_ _ | (with_reducible refine Kept.setCell ?_ (by first | exact Nat.le_refl _ | omega | (simp; done) | (simp; omega)) _) | (with_reducible refine Kept.trans ?_ (by with_reducible assumption))))⟩
        · have hz : True := trivial
          go_enter Tryz.func207, Tryz.ntmps207
          go_wp2_with fail
          (go_at_call 248; refine (KI.out _).mono ?_; rintro e w1 ⟨rfl, hk1⟩)
          have hB1_1 := hk1
          obtain ⟨hc1_1, hf1_1⟩ := kept_cells hB1_1
          have hz1_0_1 : w.heap.size < w1.heap.size := by have := hB1_1.size; simp at this; omega
          go_wp2_with fail
          (go_at_call 249; refine (K1.out _).mono ?_; rintro e w1 ⟨rfl, rfl⟩)
          go_wp2
          go_ret
          exact ⟨by first | rfl | (simp; done), (by repeat (first | with_reducible exact Kept.refl _ | with_reducible assumption | with_reducible refine Kept.drew ?_ | with_reducible refine Kept.drewN ?_ _ | with_reducible refine Kept.alloc ?_ _ | (with_reducible refine Kept.setCell ?_ (by first | exact Nat.le_refl _ | omega | (simp; done) | (simp; omega)) _) | (with_reducible refine Kept.trans ?_ (by with_reducible assumption))))⟩
    · clear hca hcb
      go_enter Tryz.func207, Tryz.ntmps207
      go_wp2_with fail
      (go_at_call 248; refine (KI.out _).mono ?_; rintro e w1 ⟨rfl, hk1⟩)
      have hB1_1 := hk1
      obtain ⟨hc1_1, hf1_1⟩ := kept_cells hB1_1
      have hz1_0_1 : w.heap.size < w1.heap.size := by have := hB1_1.size; simp at this; omega
      go_wp2_with fail
      (go_at_call 249; refine (K1.out _).mono ?_; rintro e w1 ⟨rfl, rfl⟩)
      go_wp2
      go_ret
      exact ⟨by first | rfl | (simp; done), (by repeat (first | with_reducible exact Kept.refl _ | with_reducible assumption | with_reducible refine Kept.drew ?_ | with_reducible refine Kept.drewN ?_ _ | with_reducible refine Kept.alloc ?_ _ | (with_reducible refine Kept.setCell ?_ (by first | exact Nat.le_refl _ | omega | (simp; done) | (simp; omega)) _) | (with_reducible refine Kept.trans ?_ (by with_reducible assumption))))⟩
set_option maxHeartbeats 4000000 in
theorem rSeason_any (s : ByteArray) (a b k m d o wd c : Int) (w : World) (bc : -9223372036854775808 ≤ c ∧ c ≤ 9223372036854775807) :
    Calls Tryz.prog 101 #[.agg #[.string s, .int .i64 a, .int .i64 b, .int .i64 k, .int .i64 m, .int .i64 d, .int .i64 o, .int .i64 wd, .int .i64 c]] w fun e w' => e = .returned (.bool (seaB s a b k m d o wd c)) ∧ Kept w w' := by
  unfold seaB
  have KI := Lib.hid (fun w => rIdent_any s w)
  have KA := Lib.hid (fun w => rACheck_any k m d o wd c w bc)
  have hca := rk_cases a
  have hcb := rk_cases b
  generalize idB s = i at *
  generalize rkB a = r1 at *
  generalize rkB b = r2 at *
  generalize ancB k m d o wd c = r3 at *
  cases i with
  | false =>
    clear hca hcb
    go_enter Tryz.func101, Tryz.ntmps101
    go_wp2_with fail
    (go_at_call 59; refine (KI.out _).mono ?_; rintro e w1 ⟨rfl, hk1⟩)
    have hB1_1 := hk1
    obtain ⟨hc1_1, hf1_1⟩ := kept_cells hB1_1
    have hz1_0_1 : w.heap.size < w1.heap.size := by have := hB1_1.size; simp at this; omega
    go_wp2
    go_ret
    exact ⟨by first | rfl | (simp; done), (by repeat (first | with_reducible exact Kept.refl _ | with_reducible assumption | with_reducible refine Kept.drew ?_ | with_reducible refine Kept.drewN ?_ _ | with_reducible refine Kept.alloc ?_ _ | (with_reducible refine Kept.setCell ?_ (by first | exact Nat.le_refl _ | omega | (simp; done) | (simp; omega)) _) | (with_reducible refine Kept.trans ?_ (by with_reducible assumption))))⟩
  | true =>
    rcases hca with ⟨rfl, ha1, ha2⟩ | ⟨rfl, hca⟩
    · rcases hcb with ⟨rfl, hb1, hb2⟩ | ⟨rfl, hcb⟩
      · have hz : True := trivial
        go_enter Tryz.func101, Tryz.ntmps101
        go_wp2_with fail
        (go_at_call 59; refine (KI.out _).mono ?_; rintro e w1 ⟨rfl, hk1⟩)
        have hB1_1 := hk1
        obtain ⟨hc1_1, hf1_1⟩ := kept_cells hB1_1
        have hz1_0_1 : w.heap.size < w1.heap.size := by have := hB1_1.size; simp at this; omega
        go_wp2_with fail
        (go_at_call 151; refine (KA.out _).mono ?_; rintro e w2 ⟨rfl, hk2⟩)
        have hB1_2 := Kept.trans hB1_1 hk2
        obtain ⟨hc1_2, hf1_2⟩ := kept_cells hB1_2
        have hz1_0_2 : w.heap.size < w2.heap.size := by have := hB1_2.size; simp at this; omega
        go_wp2
        go_ret
        exact ⟨by first | rfl | (simp; done), (by repeat (first | with_reducible exact Kept.refl _ | with_reducible assumption | with_reducible refine Kept.drew ?_ | with_reducible refine Kept.drewN ?_ _ | with_reducible refine Kept.alloc ?_ _ | (with_reducible refine Kept.setCell ?_ (by first | exact Nat.le_refl _ | omega | (simp; done) | (simp; omega)) _) | (with_reducible refine Kept.trans ?_ (by with_reducible assumption))))⟩
      · rcases hcb with hb | ⟨hb, hb2⟩
        · have hz : True := trivial
          go_enter Tryz.func101, Tryz.ntmps101
          go_wp2_with fail
          (go_at_call 59; refine (KI.out _).mono ?_; rintro e w1 ⟨rfl, hk1⟩)
          have hB1_1 := hk1
          obtain ⟨hc1_1, hf1_1⟩ := kept_cells hB1_1
          have hz1_0_1 : w.heap.size < w1.heap.size := by have := hB1_1.size; simp at this; omega
          go_wp2
          go_ret
          exact ⟨by first | rfl | (simp; done), (by repeat (first | with_reducible exact Kept.refl _ | with_reducible assumption | with_reducible refine Kept.drew ?_ | with_reducible refine Kept.drewN ?_ _ | with_reducible refine Kept.alloc ?_ _ | (with_reducible refine Kept.setCell ?_ (by first | exact Nat.le_refl _ | omega | (simp; done) | (simp; omega)) _) | (with_reducible refine Kept.trans ?_ (by with_reducible assumption))))⟩
        · have hz : True := trivial
          go_enter Tryz.func101, Tryz.ntmps101
          go_wp2_with fail
          (go_at_call 59; refine (KI.out _).mono ?_; rintro e w1 ⟨rfl, hk1⟩)
          have hB1_1 := hk1
          obtain ⟨hc1_1, hf1_1⟩ := kept_cells hB1_1
          have hz1_0_1 : w.heap.size < w1.heap.size := by have := hB1_1.size; simp at this; omega
          go_wp2
          go_ret
          exact ⟨by first | rfl | (simp; done), (by repeat (first | with_reducible exact Kept.refl _ | with_reducible assumption | with_reducible refine Kept.drew ?_ | with_reducible refine Kept.drewN ?_ _ | with_reducible refine Kept.alloc ?_ _ | (with_reducible refine Kept.setCell ?_ (by first | exact Nat.le_refl _ | omega | (simp; done) | (simp; omega)) _) | (with_reducible refine Kept.trans ?_ (by with_reducible assumption))))⟩
    · clear hcb
      rcases hca with ha | ⟨ha, ha2⟩
      · have hz : True := trivial
        go_enter Tryz.func101, Tryz.ntmps101
        go_wp2_with fail
        (go_at_call 59; refine (KI.out _).mono ?_; rintro e w1 ⟨rfl, hk1⟩)
        have hB1_1 := hk1
        obtain ⟨hc1_1, hf1_1⟩ := kept_cells hB1_1
        have hz1_0_1 : w.heap.size < w1.heap.size := by have := hB1_1.size; simp at this; omega
        go_wp2
        go_ret
        exact ⟨by first | rfl | (simp; done), (by repeat (first | with_reducible exact Kept.refl _ | with_reducible assumption | with_reducible refine Kept.drew ?_ | with_reducible refine Kept.drewN ?_ _ | with_reducible refine Kept.alloc ?_ _ | (with_reducible refine Kept.setCell ?_ (by first | exact Nat.le_refl _ | omega | (simp; done) | (simp; omega)) _) | (with_reducible refine Kept.trans ?_ (by with_reducible assumption))))⟩
      · have hz : True := trivial
        go_enter Tryz.func101, Tryz.ntmps101
        go_wp2_with fail
        (go_at_call 59; refine (KI.out _).mono ?_; rintro e w1 ⟨rfl, hk1⟩)
        have hB1_1 := hk1
        obtain ⟨hc1_1, hf1_1⟩ := kept_cells hB1_1
        have hz1_0_1 : w.heap.size < w1.heap.size := by have := hB1_1.size; simp at this; omega
        go_wp2
        go_ret
        exact ⟨by first | rfl | (simp; done), (by repeat (first | with_reducible exact Kept.refl _ | with_reducible assumption | with_reducible refine Kept.drew ?_ | with_reducible refine Kept.drewN ?_ _ | with_reducible refine Kept.alloc ?_ _ | (with_reducible refine Kept.setCell ?_ (by first | exact Nat.le_refl _ | omega | (simp; done) | (simp; omega)) _) | (with_reducible refine Kept.trans ?_ (by with_reducible assumption))))⟩
set_option maxHeartbeats 4000000 in
theorem rFeast_any (s : ByteArray) (a b k m d o wd c : Int) (w : World) (bc : -9223372036854775808 ≤ c ∧ c ≤ 9223372036854775807) :
    Calls Tryz.prog 102 #[.agg #[.string s, .int .i64 a, .int .i64 b, .int .i64 k, .int .i64 m, .int .i64 d, .int .i64 o, .int .i64 wd, .int .i64 c]] w fun e w' => e = .returned (.bool (feaB s a b k m d o wd c)) ∧ Kept w w' := by
  unfold feaB
  have KI := Lib.hid (fun w => rIdent_any s w)
  have KA := Lib.hid (fun w => rACheck_any k m d o wd c w bc)
  have hca := rk_cases a
  have hcb := po_cases b
  generalize idB s = i at *
  generalize rkB a = r1 at *
  generalize poB b = r2 at *
  generalize ancB k m d o wd c = r3 at *
  cases i with
  | false =>
    clear hca hcb
    go_enter Tryz.func102, Tryz.ntmps102
    go_wp2_with fail
    (go_at_call 59; refine (KI.out _).mono ?_; rintro e w1 ⟨rfl, hk1⟩)
    have hB1_1 := hk1
    obtain ⟨hc1_1, hf1_1⟩ := kept_cells hB1_1
    have hz1_0_1 : w.heap.size < w1.heap.size := by have := hB1_1.size; simp at this; omega
    go_wp2
    go_ret
    exact ⟨by first | rfl | (simp; done), (by repeat (first | with_reducible exact Kept.refl _ | with_reducible assumption | with_reducible refine Kept.drew ?_ | with_reducible refine Kept.drewN ?_ _ | with_reducible refine Kept.alloc ?_ _ | (with_reducible refine Kept.setCell ?_ (by first | exact Nat.le_refl _ | omega | (simp; done) | (simp; omega)) _) | (with_reducible refine Kept.trans ?_ (by with_reducible assumption))))⟩
  | true =>
    rcases hca with ⟨rfl, ha1, ha2⟩ | ⟨rfl, hca⟩
    · rcases hcb with ⟨rfl, hb1, hb2⟩ | ⟨rfl, hcb⟩
      · have hz : True := trivial
        go_enter Tryz.func102, Tryz.ntmps102
        go_wp2_with fail
        (go_at_call 59; refine (KI.out _).mono ?_; rintro e w1 ⟨rfl, hk1⟩)
        have hB1_1 := hk1
        obtain ⟨hc1_1, hf1_1⟩ := kept_cells hB1_1
        have hz1_0_1 : w.heap.size < w1.heap.size := by have := hB1_1.size; simp at this; omega
        go_wp2_with fail
        (go_at_call 151; refine (KA.out _).mono ?_; rintro e w2 ⟨rfl, hk2⟩)
        have hB1_2 := Kept.trans hB1_1 hk2
        obtain ⟨hc1_2, hf1_2⟩ := kept_cells hB1_2
        have hz1_0_2 : w.heap.size < w2.heap.size := by have := hB1_2.size; simp at this; omega
        go_wp2
        go_ret
        exact ⟨by first | rfl | (simp; done), (by repeat (first | with_reducible exact Kept.refl _ | with_reducible assumption | with_reducible refine Kept.drew ?_ | with_reducible refine Kept.drewN ?_ _ | with_reducible refine Kept.alloc ?_ _ | (with_reducible refine Kept.setCell ?_ (by first | exact Nat.le_refl _ | omega | (simp; done) | (simp; omega)) _) | (with_reducible refine Kept.trans ?_ (by with_reducible assumption))))⟩
      · rcases hcb with hb | ⟨hb, hb2⟩
        · have hz : True := trivial
          go_enter Tryz.func102, Tryz.ntmps102
          go_wp2_with fail
          (go_at_call 59; refine (KI.out _).mono ?_; rintro e w1 ⟨rfl, hk1⟩)
          have hB1_1 := hk1
          obtain ⟨hc1_1, hf1_1⟩ := kept_cells hB1_1
          have hz1_0_1 : w.heap.size < w1.heap.size := by have := hB1_1.size; simp at this; omega
          go_wp2
          go_ret
          exact ⟨by first | rfl | (simp; done), (by repeat (first | with_reducible exact Kept.refl _ | with_reducible assumption | with_reducible refine Kept.drew ?_ | with_reducible refine Kept.drewN ?_ _ | with_reducible refine Kept.alloc ?_ _ | (with_reducible refine Kept.setCell ?_ (by first | exact Nat.le_refl _ | omega | (simp; done) | (simp; omega)) _) | (with_reducible refine Kept.trans ?_ (by with_reducible assumption))))⟩
        · have hz : True := trivial
          go_enter Tryz.func102, Tryz.ntmps102
          go_wp2_with fail
          (go_at_call 59; refine (KI.out _).mono ?_; rintro e w1 ⟨rfl, hk1⟩)
          have hB1_1 := hk1
          obtain ⟨hc1_1, hf1_1⟩ := kept_cells hB1_1
          have hz1_0_1 : w.heap.size < w1.heap.size := by have := hB1_1.size; simp at this; omega
          go_wp2
          go_ret
          exact ⟨by first | rfl | (simp; done), (by repeat (first | with_reducible exact Kept.refl _ | with_reducible assumption | with_reducible refine Kept.drew ?_ | with_reducible refine Kept.drewN ?_ _ | with_reducible refine Kept.alloc ?_ _ | (with_reducible refine Kept.setCell ?_ (by first | exact Nat.le_refl _ | omega | (simp; done) | (simp; omega)) _) | (with_reducible refine Kept.trans ?_ (by with_reducible assumption))))⟩
    · clear hcb
      rcases hca with ha | ⟨ha, ha2⟩
      · have hz : True := trivial
        go_enter Tryz.func102, Tryz.ntmps102
        go_wp2_with fail
        (go_at_call 59; refine (KI.out _).mono ?_; rintro e w1 ⟨rfl, hk1⟩)
        have hB1_1 := hk1
        obtain ⟨hc1_1, hf1_1⟩ := kept_cells hB1_1
        have hz1_0_1 : w.heap.size < w1.heap.size := by have := hB1_1.size; simp at this; omega
        go_wp2
        go_ret
        exact ⟨by first | rfl | (simp; done), (by repeat (first | with_reducible exact Kept.refl _ | with_reducible assumption | with_reducible refine Kept.drew ?_ | with_reducible refine Kept.drewN ?_ _ | with_reducible refine Kept.alloc ?_ _ | (with_reducible refine Kept.setCell ?_ (by first | exact Nat.le_refl _ | omega | (simp; done) | (simp; omega)) _) | (with_reducible refine Kept.trans ?_ (by with_reducible assumption))))⟩
      · have hz : True := trivial
        go_enter Tryz.func102, Tryz.ntmps102
        go_wp2_with fail
        (go_at_call 59; refine (KI.out _).mono ?_; rintro e w1 ⟨rfl, hk1⟩)
        have hB1_1 := hk1
        obtain ⟨hc1_1, hf1_1⟩ := kept_cells hB1_1
        have hz1_0_1 : w.heap.size < w1.heap.size := by have := hB1_1.size; simp at this; omega
        go_wp2
        go_ret
        exact ⟨by first | rfl | (simp; done), (by repeat (first | with_reducible exact Kept.refl _ | with_reducible assumption | with_reducible refine Kept.drew ?_ | with_reducible refine Kept.drewN ?_ _ | with_reducible refine Kept.alloc ?_ _ | (with_reducible refine Kept.setCell ?_ (by first | exact Nat.le_refl _ | omega | (simp; done) | (simp; omega)) _) | (with_reducible refine Kept.trans ?_ (by with_reducible assumption))))⟩
end Go.Proofs.YtblaphkaklocfaaGreatDoor
/- Plain: catalogues; the records of a slice; the map of what has been seen. -/
namespace Go.Proofs.YtblaphkaklocfaaGreatDoor
open Go.ChangeShapes Go.WideShapes Go.ChangeAt Go.RowKit
set_option maxHeartbeats 1000000
set_option maxRecDepth 20000

/-- A season or a feast. -/
structure Rec where
  s : ByteArray
  a : Int
  b : Int
  k : Int
  m : Int
  d : Int
  o : Int
  wd : Int
  c : Int
instance : Inhabited Rec := ⟨⟨ByteArray.empty, 0, 0, 0, 0, 0, 0, 0, 0⟩⟩
def Rec.vals (r : Rec) : List Value := [.string r.s, .int .i64 r.a, .int .i64 r.b, .int .i64 r.k, .int .i64 r.m, .int .i64 r.d, .int .i64 r.o, .int .i64 r.wd, .int .i64 r.c]
def Rec.val (r : Rec) : Value := .agg #[.string r.s, .int .i64 r.a, .int .i64 r.b, .int .i64 r.k, .int .i64 r.m, .int .i64 r.d, .int .i64 r.o, .int .i64 r.wd, .int .i64 r.c]
/-- What its memory may hold: the string's length, the last number's bounds. -/
def Rec.ok (r : Rec) : Prop := r.s.size ≤ maxLen ∧ -9223372036854775808 ≤ r.c ∧ r.c ≤ 9223372036854775807
def seaR (r : Rec) : Bool := seaB r.s r.a r.b r.k r.m r.d r.o r.wd r.c
def feaR (r : Rec) : Bool := feaB r.s r.a r.b r.k r.m r.d r.o r.wd r.c
def ids (L : List Rec) : List ByteArray := L.map Rec.s
/-- A well-formed catalogue. -/
def catP (f : Int) (L M : List Rec) : Prop := (0 ≤ f ∧ f ≤ 9) ∧ (1 ≤ L.length ∧ L.length ≤ 20) ∧ M.length ≤ 400 ∧ (∀ r ∈ L, seaR r = true) ∧ (∀ r ∈ M, feaR r = true) ∧ (ids L ++ ids M).Nodup
instance (f : Int) (L M : List Rec) : Decidable (catP f L M) := by unfold catP; infer_instance
def catB (f : Int) (L M : List Rec) : Bool := decide (catP f L M)
/-- The slice .slice o L.length _ holds the records L. -/
def IsRecs (w : World) (o : Option Addr) (L : List Rec) : Prop := ∀ j, j < L.length → ∃ b off, o = some ⟨b, off, none⟩ ∧ ∀ i u, (L[j]!).vals[i]? = some u → w.cell? ⟨b, off + j * 9 + i, none⟩ = some u
theorem IsRecs.kept {w w' : World} {o : Option Addr} {L : List Rec} (h : IsRecs w o L) (k : Kept w w') : IsRecs w' o L := fun j hj => by
  obtain ⟨b, off, e, hc⟩ := h j hj
  exact ⟨b, off, e, fun i u hu => (k.cell _ _ (lt_cellL (hc i u hu))).trans (hc i u hu)⟩
theorem isRecs_nil (w : World) (o : Option Addr) : IsRecs w o [] := fun j h => absurd h (Nat.not_lt_zero _)
theorem IsRecs.cells {w : World} {o : Option Addr} {L : List Rec} (h : IsRecs w o L) (j : Nat) (hj : j < L.length) : ∃ b off, o = some ⟨b, off, none⟩ ∧
    w.cell? ⟨b, off + j * 9, none⟩ = some (.string (L[j]!).s) ∧ w.cell? ⟨b, off + j * 9 + 1, none⟩ = some (.int .i64 (L[j]!).a) ∧ w.cell? ⟨b, off + j * 9 + 2, none⟩ = some (.int .i64 (L[j]!).b) ∧ w.cell? ⟨b, off + j * 9 + 3, none⟩ = some (.int .i64 (L[j]!).k) ∧
    w.cell? ⟨b, off + j * 9 + 4, none⟩ = some (.int .i64 (L[j]!).m) ∧ w.cell? ⟨b, off + j * 9 + 5, none⟩ = some (.int .i64 (L[j]!).d) ∧ w.cell? ⟨b, off + j * 9 + 6, none⟩ = some (.int .i64 (L[j]!).o) ∧ w.cell? ⟨b, off + j * 9 + 7, none⟩ = some (.int .i64 (L[j]!).wd) ∧ w.cell? ⟨b, off + j * 9 + 8, none⟩ = some (.int .i64 (L[j]!).c) := by
  obtain ⟨b, off, e, hc⟩ := h j hj
  exact ⟨b, off, e, hc 0 _ rfl, hc 1 _ rfl, hc 2 _ rfl, hc 3 _ rfl, hc 4 _ rfl, hc 5 _ rfl, hc 6 _ rfl, hc 7 _ rfl, hc 8 _ rfl⟩
/-- The map of the strings that have been seen. -/
def seenD (l : List ByteArray) : DataW Unit := l.foldl (fun D s => D.put (.string s.data.toList) (.lit (.bool true))) (.map [])
theorem seenD_snoc (l : List ByteArray) (s : ByteArray) : seenD (l ++ [s]) = (seenD l).put (.string s.data.toList) (.lit (.bool true)) := by unfold seenD; rw [List.foldl_append]; rfl
theorem key_inj (s t : ByteArray) (h : (Lit.string s.data.toList) = .string t.data.toList) : s = t := by
  have h2 : s.data.toList = t.data.toList := by injection h
  have h3 := Array.ext' h2
  cases s; cases t; simp_all
def inB (s : ByteArray) (l : List ByteArray) : Bool := l.any (fun t => decide (t = s))
theorem inB_iff (s : ByteArray) (l : List ByteArray) : inB s l = true ↔ s ∈ l := by
  unfold inB
  simp
theorem inB_cons (s x : ByteArray) (t : List ByteArray) : inB s (x :: t) = (decide (x = s) || inB s t) := rfl
theorem seen_all (l : List ByteArray) : Maps.IsMap (seenD l) ∧ ∀ s : ByteArray, (seenD l).atKey (.string s.data.toList) (.lit (.bool false)) = .lit (.bool (inB s l)) := by
  suffices h : ∀ (l : List ByteArray) (D : DataW Unit) (p : ByteArray → Bool), Maps.IsMap D → (∀ s : ByteArray, D.atKey (.string s.data.toList) (.lit (.bool false)) = .lit (.bool (p s))) →
      Maps.IsMap (l.foldl (fun D s => D.put (.string s.data.toList) (.lit (.bool true))) D) ∧ ∀ s : ByteArray, (l.foldl (fun D s => D.put (.string s.data.toList) (.lit (.bool true))) D).atKey (.string s.data.toList) (.lit (.bool false)) = .lit (.bool (p s || inB s l)) by
    obtain ⟨h1, h2⟩ := h l (.map []) (fun _ => false) Maps.isMap_empty (fun s => rfl)
    exact ⟨h1, fun s => by have := h2 s; simpa [seenD] using this⟩
  intro l
  induction l with
  | nil => intro D p h1 h2; exact ⟨h1, fun s => by simp [h2, inB]⟩
  | cons x t ih =>
    intro D p h1 h2
    obtain ⟨g1, g2⟩ := ih (D.put (.string x.data.toList) (.lit (.bool true))) (fun s => p s || decide (s = x)) (h1.put _ _) (fun s => by
      by_cases e : s = x
      · subst e
        rw [Maps.atKey_put_same h1 (by trivial)]
        simp
      · rw [Maps.atKey_put_other (fun h => e (key_inj _ _ h)), h2]
        simp [e])
    refine ⟨g1, fun s => (g2 s).trans ?_⟩
    congr 2
    rw [inB_cons]
    by_cases e : s = x
    · simp [e]
    · have e' : ¬ x = s := fun h => e h.symm
      simp [e, e']
end Go.Proofs.YtblaphkaklocfaaGreatDoor

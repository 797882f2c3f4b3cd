/- PaschalTables. -/
import Derived.Test.YtliomdnglhjfaaaDoorPasAw
import Derived.Test.YtliomdnglhjfaaaDoorLaidG
import Derived.Test.YtliomdnglhjfaaaDoorHead
import Derived.Test.YtliomdnglhjfaaaDoorLess
set_option linter.unusedSimpArgs false
set_option linter.unusedVariables false
set_option linter.unusedSectionVars false
namespace Go.Proofs.YtliomdnglhjfaaaDoor
open Go.ChangeShapes Go.WideShapes Go.ChangeAt Go.RowKit
set_option maxHeartbeats 1000000
set_option maxRecDepth 20000

/-- The dates rise. -/
def rise : List (Int × Int) → Bool
  | p :: q :: t => decide (p.1 < q.1 ∨ p.1 = q.1 ∧ p.2 < q.2) && rise (q :: t)
  | _ => true
theorem rise_all : ∀ l : Fin 32, 1 ≤ l.val → (12 ≤ (bearsL (l.val : Int) dayList).length ∧ (bearsL (l.val : Int) dayList).length ≤ 13) ∧ rise (bearsL (l.val : Int) dayList) = true := by decide +kernel
theorem rise_get (L : List (Int × Int)) (h : rise L = true) (i : Nat) (hi : i + 1 < L.length) : (L[i]!).1 < (L[i + 1]!).1 ∨ (L[i]!).1 = (L[i + 1]!).1 ∧ (L[i]!).2 < (L[i + 1]!).2 := by
  induction L generalizing i with
  | nil => simp at hi
  | cons p t ih =>
    cases t with
    | nil => simp at hi
    | cons q t =>
      unfold rise at h
      rw [Bool.and_eq_true, decide_eq_true_eq] at h
      cases i with
      | zero => simpa using h.1
      | succ i => simpa using ih h.2 i (by simpa using hi)
/-- Is the day among the first k of L? -/
def among (m d : Int) (L : List (Int × Int)) (k : Nat) : Bool := (L.take k).any fun p => p.1 == m && p.2 == d
theorem among_succ (m d : Int) (L : List (Int × Int)) (k : Nat) (h : k < L.length) : among m d L (k + 1) = (among m d L k || ((L[k]!).1 == m && (L[k]!).2 == d)) := by
  have e : L.take (k + 1) = L.take k ++ [L[k]!] := by
    rw [List.take_add_one, List.getElem?_eq_getElem h, List.getElem!_eq_getElem?_getD]
    simp [h]
  unfold among
  rw [e, List.any_append]
  simp
theorem mem_dayList (m d : Int) (h : Ex m d) : (m, d) ∈ dayList := List.mem_of_getElem? (dayList_get m d h)
theorem among_end (l m d : Int) : among m d (bearsL l dayList) (bearsL l dayList).length = bears m d l := by
  unfold among
  rw [List.take_length, Bool.eq_iff_iff, List.any_eq_true]
  constructor
  · rintro ⟨p, hp, he⟩
    simp only [Bool.and_eq_true, beq_iff_eq] at he
    have := (List.mem_filter.1 hp).2
    rw [he.1, he.2] at this
    exact this
  · intro hb
    have hE : Ex m d := by unfold bears at hb; exact (of_decide_eq_true hb).1
    exact ⟨(m, d), List.mem_filter.2 ⟨mem_dayList m d hE, hb⟩, by simp⟩
theorem ok_of_ex (k y m d : Int) (h : Ex m d) (h1 : 1 ≤ y) (h2 : y ≤ 1000000000) : OkD k y m d := by
  obtain ⟨a, b, c, d'⟩ := h
  have hl : mlen false m ≤ mlen (lp k y) m := by
    cases lp k y with
    | false => exact Int.le_refl _
    | true => rcases month_cases m a b with rfl | rfl | rfl | rfl | rfl | rfl | rfl | rfl | rfl | rfl | rfl | rfl <;> decide
  exact ⟨h1, h2, a, b, c, by omega⟩
theorem nmB_bears (k y m d : Int) (hf : Fit k y) (e0 : flE k y = 0) : nmB k y m d = bears m d (labN k y) := by
  unfold nmB
  cases hb : bears m d (labN k y) with
  | false => simp
  | true =>
    have hE : Ex m d := by unfold bears at hb; exact (of_decide_eq_true hb).1
    obtain ⟨a, b, c⟩ := fit_cal k y hf
    have ho := ok_of_ex k y m d hE b c
    have : nmE k y m d = 0 := by
      unfold nmE
      rw [if_pos e0]
      rcases c_cases k y m d with ⟨_, _, _, e⟩ | ⟨_, _, _, n⟩
      · exact e
      · exact absurd ⟨a, ho⟩ n
    simp [this]
set_option maxHeartbeats 4000000 in
theorem PaschalTables_walk (c y m d : Int) (bc : 0 ≤ c ∧ c ≤ 255) (by0 : -9223372036854775808 ≤ y ∧ y ≤ 9223372036854775807) (_b2 : -9223372036854775808 ≤ m ∧ m ≤ 9223372036854775807) (_b3 : -9223372036854775808 ≤ d ∧ d ≤ 9223372036854775807) (w : World) (hT : RTab w) :
    Calls Tryd.prog 5 #[.int .u8 c, .int .i64 y, .int .i64 m, .int .i64 d] w fun e w' => e = .returned (.bool true) ∧ Kept w w' := by
  obtain ⟨bc1, bc2⟩ := bc
  obtain ⟨by1, by2⟩ := by0
  have KT := Lib.hid (fun w' (k : Kept w w') => hT.kept k)
  clear hT
  have hsm : Sm (1 + c % 2) := by unfold Sm; omega
  have KA := Lib.hid (fun w hT => Table_any (1 + c % 2) y w hT hsm)
  have KF := Lib.hid (fun w => Fails_any (1 + c % 2) y w)
  rcases fl_cases (1 + c % 2) y with ⟨h, e0⟩ | ⟨h, e0⟩ | ⟨h, e0⟩
  · rw [e0, if_pos rfl] at KA
    rw [e0] at KF
    have hlb := labN_bounds (1 + c % 2) y
    have hap := rise_all ⟨(labN (1 + c % 2) y).toNat, by omega⟩ (by show 1 ≤ (labN (1 + c % 2) y).toNat; omega)
    simp only [Int.toNat_of_nonneg (show 0 ≤ labN (1 + c % 2) y by omega)] at hap
    have KN := Lib.hid (fun w (hT : RTab w) => NewMoon_any (1 + c % 2) y m d w hT.1 hT.2 hsm)
    rw [nmB_bears _ y m d h e0] at KN
    have HE := Lib.hid (among_end (labN (1 + c % 2) y) m d)
    have KR := Lib.hid (fun w => rNewMoon_ok (1 + c % 2) y m d w h)
    have hx := nmB_bears _ y m d h e0
    have hnr : 0 ≤ nmE (1 + c % 2) y m d ∧ nmE (1 + c % 2) y m d ≤ 3 := by
      have := cE_range (1 + c % 2) y m d
      unfold nmE
      rw [if_pos e0]
      exact this
    have hcase : nmE (1 + c % 2) y m d = 0 ∨ (nmE (1 + c % 2) y m d ≠ 0 ∧ bears m d (labN (1 + c % 2) y) = false) := by
      by_cases g : nmE (1 + c % 2) y m d = 0
      · exact .inl g
      · exact .inr ⟨g, by rw [← hx]; simp [nmB, g]⟩
    clear hx e0 h hlb
    generalize bearsL (labN (1 + c % 2) y) dayList = L at *
    generalize bears m d (labN (1 + c % 2) y) = r at *
    generalize nmE (1 + c % 2) y m d = x at *
    obtain ⟨⟨n1, n2⟩, hr⟩ := hap
    have HG := Lib.hid (rise_get L hr)
    have HS := Lib.hid (among_succ m d L)
    clear hr
    go_enter Tryd.func5, Tryd.ntmps5
    go_wp2_with fail
    go_at_call 30
    refine (KA.out _ (KT.out _ (Kept.refl _))).mono ?_
    rintro e w1 ⟨o, cc, rfl, hd, hk1⟩
    have HD := Lib.hid (hd trivial)
    clear hd
    go_wp2_with (go_at_call 21; (with_reducible refine (KF.out _).mono ?_); rintro e w1 ⟨rfl, rfl⟩)
    go_at_call 19
    refine (Pas_awake _ (KT.out _ hk1)).mono ?_
    rintro e w2 ⟨rfl, hk2⟩
    have K2 := hk1.trans hk2
    have HB0 := Dblk.new w2 (.int .i64 y) (.int .i64 m) (.int .i64 d)
    have K3 := K2.alloc (.cells #[.int .i64 y, .int .i64 m, .int .i64 d] 23)
    have K31 := hk2.alloc (.cells #[.int .i64 y, .int .i64 m, .int .i64 d] 23)
    go_wp2_with fail
    generalize (w2.alloc (.cells #[.int .i64 y, .int .i64 m, .int .i64 d] 23)) = w3 at *
    generalize w2.heap.size = bd at *
    go_loopw [14, 15] (fun f i wr => ∃ j : Nat, j ≤ L.length ∧ i = .int .i64 j ∧ f = .bool (among m d L j) ∧ Dblk wr bd (.int .i64 y) (.int .i64 m) (.int .i64 d) ∧ Kept w wr ∧ Kept w1 wr) (fun _ i _ => (L.length - intOf i).toNat)
    case atStart => exact ⟨0, by omega, rfl, rfl, HB0, K3, K31⟩
    case round =>
      obtain ⟨j, hj, rfl, rfl, HB, hkw, hkw1⟩ := hrel
      obtain ⟨b1, b2, b3, b4, b5, b6⟩ := HB.cells
      by_cases hlt : j < L.length
      · obtain ⟨g, rfl, q1, q2, q3⟩ := (HD.out.kept hkw1) j hlt
        have HSj := Lib.hid (HS.out j hlt)
        have hi2 : (j : Int) < (L.length : Int) := by omega
        rw [Nat.mul_comm] at q1 q2 q3
        by_cases hj0 : j = 0
        · subst hj0
          simp only [Nat.zero_mul, Nat.zero_add] at q1 q2 q3
          generalize L[0]! = p at *
          obtain ⟨m1, d1⟩ := p
          dsimp only at q2 q3 HSj
          cases hF : among m d L 0 with
          | true =>
            rw [hF] at HSj
            go_wp2_with fail
            go_quiet (fail)
            go_wp2_with fail
            go_quiet (fail)
            go_wp2_with fail
            go_roundw
            case rel => exact ⟨0 + 1, by omega, by go_num, by rw [HSj.out]; rfl, HB, (by first | exact hkw | exact Kept.drewN hkw _), (by first | exact hkw1 | exact Kept.drewN hkw1 _)⟩
            case measure => simp [intOf]; omega
          | false =>
            rw [hF] at HSj
            have hQ : (m1 = m ∧ d1 = d) ∨ (¬ m1 = m) ∨ (m1 = m ∧ ¬ d1 = d) := by omega
            rcases hQ with ⟨rfl, rfl⟩ | hq | ⟨rfl, hq⟩
            · go_wp2_with fail
              go_quiet (fail)
              go_wp2_with fail
              go_quiet (fail)
              go_wp2_with fail
              go_roundw
              case rel => exact ⟨0 + 1, by omega, by go_num, by rw [HSj.out]; simp, HB, Kept.drewN hkw _, Kept.drewN hkw1 _⟩
              case measure => simp [intOf]; omega
            · have hq' : (m1 == m) = false := beq_false_of_ne hq
              go_wp2_with fail
              go_quiet (fail)
              go_wp2_with fail
              go_quiet (fail)
              go_wp2_with fail
              go_roundw
              case rel => exact ⟨0 + 1, by omega, by go_num, by rw [HSj.out, hq']; simp [hq], HB, Kept.drewN hkw _, Kept.drewN hkw1 _⟩
              case measure => simp [intOf]; omega
            · have hq' : (d1 == d) = false := beq_false_of_ne hq
              go_wp2_with fail
              go_quiet (fail)
              go_wp2_with fail
              go_quiet (fail)
              go_wp2_with fail
              go_roundw
              case rel => exact ⟨0 + 1, by omega, by go_num, by rw [HSj.out, hq']; simp [hq], HB, Kept.drewN hkw _, Kept.drewN hkw1 _⟩
              case measure => simp [intOf]; omega
        · obtain ⟨g', ho', p1, p2, p3⟩ := (HD.out.kept hkw1) (j - 1) (by omega)
          obtain rfl : g' = g := by simpa using ho'.symm
          rw [Nat.mul_comm] at p1 p2 p3
          have hlt2 := HG.out (j - 1) (by omega)
          rw [show j - 1 + 1 = j by omega] at hlt2
          generalize L[j]! = p at *
          generalize L[j - 1]! = pp at *
          obtain ⟨m1, d1⟩ := p
          obtain ⟨m0, d0⟩ := pp
          dsimp only at q2 q3 HSj p2 p3 hlt2
          have KLs := Lib.hid (fun w => Less_yes y m0 d0 y m1 d1 w (.inr ⟨rfl, hlt2⟩))
          obtain ⟨J, hJ⟩ : ∃ J : Int, J = (j : Int) := ⟨_, rfl⟩
          have HJ := Lib.hid hJ
          have ej : j = J.toNat := by omega
          have ei : j - 1 = J.toNat - 1 := by omega
          have hi3 : 0 ≤ J := by omega
          have hi4 : J < (L.length : Int) := by omega
          have hi5 : 0 ≤ J - 1 := by omega
          have hi6 : J - 1 < (L.length : Int) := by omega
          have hi7 : 0 < J := by omega
          have hi8 : 1 ≤ J := by omega
          have hi9 : J ≤ (L.length : Int) := by omega
          have hi10 : ¬ J < 1 := by omega
          have hi11 : ¬ (L.length : Int) < J := by omega
          have hi12 : ¬ (L.length : Int) ≤ J - 1 := by omega
          have hi13 : ¬ J - 1 < 0 := by omega
          have hw2 : wrap64 (J - 1) = J - 1 := by unfold wrap64; omega
          have hw1 : IntKind.i64.wrap (J - 1) = J - 1 := by rw [IntWalk.i64_left]; exact hw2
          rw [ej] at q1 q2 q3
          rw [ei] at p1 p2 p3
          rw [← hJ]
          clear hJ ej ei hi2
          have hgz := lt_cellL q1
          cases hF : among m d L j with
          | true =>
            rw [hF] at HSj
            go_wp2_with fail
            go_region_held3 (fun w' => Kept (wr) w' ∧ (∀ b o, b < (wr).heap.size → w'.cell? ⟨b, o, none⟩ = (wr).cell? ⟨b, o, none⟩)) (first | exact held_of (Kept.drew (Kept.refl _)) | exact held_of (Kept.trans (And.left (by assumption)) (by assumption))) (first | (go_at_call 31; (with_reducible refine (KLs.out _).mono ?_); rintro e w1 ⟨rfl, hk1⟩))
            have kk1 : Kept wr w1 := And.left (by assumption)
            have HBk := HB.kept kk1
            obtain ⟨b1, b2, b3, b4, b5, b6⟩ := HBk.cells
            have q1 := (kk1.cell _ _ hgz).trans q1
            have q2 := (kk1.cell _ _ hgz).trans q2
            have q3 := (kk1.cell _ _ hgz).trans q3
            go_wp2_with fail
            go_quiet (fail)
            go_wp2_with fail
            go_roundw
            case rel => exact ⟨j + 1, by have := HJ.out; omega, by have := HJ.out; go_num, by rw [HSj.out]; rfl, HBk, (by first | exact hkw.trans kk1 | exact Kept.drewN (hkw.trans kk1) _), (by first | exact hkw1.trans kk1 | exact Kept.drewN (hkw1.trans kk1) _)⟩
            case measure => have := HJ.out; simp [intOf]; omega
          | false =>
            rw [hF] at HSj
            have hQ : (m1 = m ∧ d1 = d) ∨ (¬ m1 = m) ∨ (m1 = m ∧ ¬ d1 = d) := by omega
            rcases hQ with ⟨rfl, rfl⟩ | hq | ⟨rfl, hq⟩
            · go_wp2_with fail
              go_region_held3 (fun w' => Kept (wr) w' ∧ (∀ b o, b < (wr).heap.size → w'.cell? ⟨b, o, none⟩ = (wr).cell? ⟨b, o, none⟩)) (first | exact held_of (Kept.drew (Kept.refl _)) | exact held_of (Kept.trans (And.left (by assumption)) (by assumption))) (first | (go_at_call 31; (with_reducible refine (KLs.out _).mono ?_); rintro e w1 ⟨rfl, hk1⟩))
              have kk1 : Kept wr w1 := And.left (by assumption)
              have HBk := HB.kept kk1
              obtain ⟨b1, b2, b3, b4, b5, b6⟩ := HBk.cells
              have q1 := (kk1.cell _ _ hgz).trans q1
              have q2 := (kk1.cell _ _ hgz).trans q2
              have q3 := (kk1.cell _ _ hgz).trans q3
              go_wp2_with fail
              go_quiet (fail)
              go_wp2_with fail
              go_roundw
              case rel => exact ⟨j + 1, by have := HJ.out; omega, by have := HJ.out; go_num, by rw [HSj.out]; simp, HBk, (by first | exact hkw.trans kk1 | exact Kept.drewN (hkw.trans kk1) _), (by first | exact hkw1.trans kk1 | exact Kept.drewN (hkw1.trans kk1) _)⟩
              case measure => have := HJ.out; simp [intOf]; omega
            · have hq' : (m1 == m) = false := beq_false_of_ne hq
              go_wp2_with fail
              go_region_held3 (fun w' => Kept (wr) w' ∧ (∀ b o, b < (wr).heap.size → w'.cell? ⟨b, o, none⟩ = (wr).cell? ⟨b, o, none⟩)) (first | exact held_of (Kept.drew (Kept.refl _)) | exact held_of (Kept.trans (And.left (by assumption)) (by assumption))) (first | (go_at_call 31; (with_reducible refine (KLs.out _).mono ?_); rintro e w1 ⟨rfl, hk1⟩))
              have kk1 : Kept wr w1 := And.left (by assumption)
              have HBk := HB.kept kk1
              obtain ⟨b1, b2, b3, b4, b5, b6⟩ := HBk.cells
              have q1 := (kk1.cell _ _ hgz).trans q1
              have q2 := (kk1.cell _ _ hgz).trans q2
              have q3 := (kk1.cell _ _ hgz).trans q3
              go_wp2_with fail
              go_quiet (fail)
              go_wp2_with fail
              go_roundw
              case rel => exact ⟨j + 1, by have := HJ.out; omega, by have := HJ.out; go_num, by rw [HSj.out, hq']; simp [hq], HBk, (by first | exact hkw.trans kk1 | exact Kept.drewN (hkw.trans kk1) _), (by first | exact hkw1.trans kk1 | exact Kept.drewN (hkw1.trans kk1) _)⟩
              case measure => have := HJ.out; simp [intOf]; omega
            · have hq' : (d1 == d) = false := beq_false_of_ne hq
              go_wp2_with fail
              go_region_held3 (fun w' => Kept (wr) w' ∧ (∀ b o, b < (wr).heap.size → w'.cell? ⟨b, o, none⟩ = (wr).cell? ⟨b, o, none⟩)) (first | exact held_of (Kept.drew (Kept.refl _)) | exact held_of (Kept.trans (And.left (by assumption)) (by assumption))) (first | (go_at_call 31; (with_reducible refine (KLs.out _).mono ?_); rintro e w1 ⟨rfl, hk1⟩))
              have kk1 : Kept wr w1 := And.left (by assumption)
              have HBk := HB.kept kk1
              obtain ⟨b1, b2, b3, b4, b5, b6⟩ := HBk.cells
              have q1 := (kk1.cell _ _ hgz).trans q1
              have q2 := (kk1.cell _ _ hgz).trans q2
              have q3 := (kk1.cell _ _ hgz).trans q3
              go_wp2_with fail
              go_quiet (fail)
              go_wp2_with fail
              go_roundw
              case rel => exact ⟨j + 1, by have := HJ.out; omega, by have := HJ.out; go_num, by rw [HSj.out, hq']; simp [hq], HBk, (by first | exact hkw.trans kk1 | exact Kept.drewN (hkw.trans kk1) _), (by first | exact hkw1.trans kk1 | exact Kept.drewN (hkw1.trans kk1) _)⟩
              case measure => have := HJ.out; simp [intOf]; omega
      · obtain rfl : j = L.length := by omega
        rw [HE.out]
        go_wp2_with fail
        go_at_call 23
        (with_reducible refine (KN.out _ (KT.out _ hkw)).mono ?_)
        rintro e w4 ⟨rfl, hk4⟩
        have K4 := hkw.trans hk4
        have HB4 := HB.kept hk4
        have hbz := HB4.lt
        obtain ⟨b1, b2, b3, b4, b5, b6⟩ := HB4.cells
        rcases hcase with rfl | ⟨hx0, rfl⟩
        · go_wp2_with (go_at_call 25; (with_reducible refine (KR.out _).mono ?_); rintro e w5 ⟨rfl, hk5⟩)
          go_ret
          exact ⟨by first | rfl | (cases r <;> rfl), (by repeat (first | with_reducible exact Kept.refl _ | with_reducible assumption | with_reducible refine Kept.drew ?_ | with_reducible refine Kept.drewN ?_ _ | with_reducible refine Kept.alloc ?_ _ | (with_reducible refine Kept.setCell ?_ (by first | exact Nat.le_refl _ | omega | (simp; done) | (simp; omega)) _) | (with_reducible refine Kept.trans ?_ (by with_reducible assumption))))⟩
        · go_wp2
          go_ret
          exact ⟨rfl, (by repeat (first | with_reducible exact Kept.refl _ | with_reducible assumption | with_reducible refine Kept.drew ?_ | with_reducible refine Kept.drewN ?_ _ | with_reducible refine Kept.alloc ?_ _ | (with_reducible refine Kept.setCell ?_ (by first | exact Nat.le_refl _ | omega | (simp; done) | (simp; omega)) _) | (with_reducible refine Kept.trans ?_ (by with_reducible assumption))))⟩
  all_goals
    rw [e0] at KA KF
    rw [if_neg (by decide)] at KA
    clear h
    go_enter Tryd.func5, Tryd.ntmps5
    go_wp2_with fail
    go_at_call 30
    refine (KA.out _ (KT.out _ (Kept.refl _))).mono ?_
    rintro e w1 ⟨o, cc, rfl, hd, hk1⟩
    go_wp2_with (go_at_call 21; (with_reducible refine (KF.out _).mono ?_); rintro e w1 ⟨rfl, rfl⟩)
    go_at_call 19
    refine (Pas_awake _ (KT.out _ hk1)).mono ?_
    rintro e w2 ⟨rfl, hk2⟩
    have K2 := hk1.trans hk2
    go_wp2_with fail
    go_at_call 19
    refine (Pas_awake _ (KT.out _ K2)).mono ?_
    rintro e w3 ⟨rfl, hk3⟩
    go_wp2
    go_ret
    exact ⟨rfl, (by repeat (first | with_reducible exact Kept.refl _ | with_reducible assumption | with_reducible refine Kept.drew ?_ | with_reducible refine Kept.drewN ?_ _ | with_reducible refine Kept.alloc ?_ _ | (with_reducible refine Kept.setCell ?_ (by first | exact Nat.le_refl _ | omega | (simp; done) | (simp; omega)) _) | (with_reducible refine Kept.trans ?_ (by with_reducible assumption))))⟩

set_option maxRecDepth 100000 in
theorem PaschalTables_contract (H : Type) (enc : TypeId × Value → H) (W : World) (base : Nat) (args : Array Value) (ds gs : List (DataW H)) (before : List MemPlace)
    (hval : ∀ (j : Nat) t v, Tryd.f5.params[j]? = some t → args[j]? = some v → Value.okWide Tryd.prog W .any base t v)
    (hW : DataW.Whole enc Tryd.prog Tryd.f5.params.toList Rows.paschalTablesSpec.vars false W args.toList ds gs before) (hL : laidMetH Tryd.prog Rows.paschalTablesRow.laid W) :
    Calls Tryd.prog 5 args W fun e W' => ∃ v, e = .returned v ∧ Rows.paschalTablesSpec.post enc Tryd.prog Tryd.f5 false true false false W args v W' := by
  have hW' := hW
  obtain ⟨p, q, hA0, hV, rfl, hfz, hnd⟩ := hW
  have hA : DataW.TrodAll enc Tryd.prog W 0 (fun _ => true) true Tryd.f5.params.toList args.toList ds p := hA0
  rw [Tryd.params5] at hA hval
  obtain ⟨v0, vs0, d0, ds0, p0, q0, hargs, rfl, rfl, h0, r0⟩ := trodAll_cons hA
  obtain ⟨v1, vs1, d1, ds1, p1, q1, rfl, rfl, rfl, h1, r1⟩ := trodAll_cons r0
  obtain ⟨v2, vs2, d2, ds2, p2, q2, rfl, rfl, rfl, h2, r2⟩ := trodAll_cons r1
  obtain ⟨v3, vs3, d3, ds3, p3, q3, rfl, rfl, rfl, h3, r3⟩ := trodAll_cons r2
  obtain ⟨rfl, rfl, rfl⟩ := trodAll_nil r3
  obtain rfl : args = #[v0, v1, v2, v3] := by cases args; simp_all
  obtain ⟨rfl, rfl⟩ := trodVars_none hV
  obtain ⟨a0, rfl, rfl, rfl, w0⟩ := open_int Tryd.underlying5 (hval 0 5 v0 rfl rfl) h0
  obtain ⟨a1, rfl, rfl, rfl, w1⟩ := open_int Tryd.underlying3 (hval 1 3 v1 rfl rfl) h1
  obtain ⟨a2, rfl, rfl, rfl, w2⟩ := open_int Tryd.underlying3 (hval 2 3 v2 rfl rfl) h2
  obtain ⟨a3, rfl, rfl, rfl, w3⟩ := open_int Tryd.underlying3 (hval 3 3 v3 rfl rfl) h3
  clear hA0
  simp only [List.append_nil] at hW'
  refine (PaschalTables_walk a0 a1 a2 a3 (wf_bounds8 w0) (wf_bounds w1) (wf_bounds w2) (wf_bounds w3) W (tab_of hL)).mono fun e W' ⟨he, hg⟩ => ?_
  subst he
  exact ⟨_, rfl, post_of_kept (pa := []) (pv := []) hW' (fun _ _ _ => (trodAll_cons_mk (shut_bool Tryd.underlying4 _) trodAll_mk0)) (fun sp _ => (trodAll_cons_mk (shut_int Tryd.underlying5 w0) (trodAll_cons_mk (shut_int Tryd.underlying3 w1) (trodAll_cons_mk (shut_int Tryd.underlying3 w2) (trodAll_cons_mk (shut_int Tryd.underlying3 w3) trodAll_mk0))))) (fun _ _ => rfl) rfl
    hg (ok_one (by kernel_rfl) rfl (okWide_bool_mk Tryd.underlying4 _))⟩
theorem PaschalTables_laid (os : Os) : laidMet Tryd.prog Rows.paschalTablesRow.laid ((laidWorld os).forCall (fun _ _ => 0) ⟨#[], #[.int .u8 0, .int .i64 0, .int .i64 0, .int .i64 0], []⟩).memory :=
  laidMet_of_run' 8 (by kernel_rfl) (by kernel_rfl)
theorem PaschalTables_reads (os : Os) {H : Type} (enc : TypeId × Value → H) : ∃ places, DataW.whole enc Tryd.prog ((laidWorld os).forCall (fun _ _ => 0) ⟨#[], #[.int .u8 0, .int .i64 0, .int .i64 0, .int .i64 0], []⟩).memory Tryd.f5.params.toList Rows.paschalTablesSpec.vars false (#[.int .u8 0, .int .i64 0, .int .i64 0, .int .i64 0] : Array Value).toList 8 = some ([.lit (.int .u8 0), .lit (.int .i64 0), .lit (.int .i64 0), .lit (.int .i64 0)], [], places) :=
  ⟨[], by kernel_rfl⟩
set_option maxRecDepth 100000 in
theorem PaschalTables_lifted (os : Os) (started : os.Started) (H : Type) (enc : TypeId × Value → H) (F : Stop.Interp) :
    ReturnsInHanded {} Tryd.checked os 5 .any ((OpenSpec.ofChange Rows.paschalTablesSpec).preRow enc Tryd.prog Tryd.f5 Rows.paschalTablesRow.domain false Rows.paschalTablesRow.laid) (((OpenSpec.ofChange Rows.paschalTablesSpec).at F).post enc Tryd.prog Tryd.f5 false true false false) := by
  obtain ⟨places, hx⟩ := PaschalTables_reads os enc
  refine returnsInHanded_of_row (C := Tryd.checked) (s := OpenSpec.ofChange Rows.paschalTablesSpec) own_knob started (by kernel_rfl) Tryd.func5
    (witness_row_at (enc := enc) (C := Tryd.checked) false (laidWorld os) #[.int .u8 0, .int .i64 0, .int .i64 0, .int .i64 0] rfl (by kernel_rfl) (by kernel_rfl) (by kernel_rfl)
      (OpenSpec.preRow_of_cond 8 hx (by kernel_rfl) (fun k hk => by cases hk) (by kernel_rfl) (PaschalTables_laid os))) ?_
  intro W base args ds gs before hval hW _ _ _ hL _ _
  exact PaschalTables_contract H enc W base args ds gs before hval hW hL
theorem PaschalTables_closed : joinedFacts Tryd.pinned.checked.prog 5 Tryd.f5 (OpenSpec.ofChange Rows.paschalTablesSpec).bare Rows.paschalTablesRow = true := by
  unfold joinedFacts
  simp only [Bool.and_eq_true]
  repeat' apply And.intro
  all_goals (first | with_reducible exact head_enter | (rw [head_make]; rfl) | (rw [head_final]; rfl) | (as_aux_lemma => kernel_rfl))
theorem PaschalTables_said : Rows.PaschalTablesSaid :=
  OpenClaim.holds_of_cond 5 Tryd.f5 rfl rfl rfl rfl rfl rfl rfl ⟨rfl, rfl, rfl, rfl, rfl⟩ rfl rfl rfl rfl rfl (by kernel_rfl) Tryd.func5 PaschalTables_closed
    (of_decide_eq_true (by kernel_rfl)) (by unfold Func.isWrapper; first | (rw [if_pos (by decide +kernel)]; kernel_rfl) | (rw [if_neg (by decide +kernel)]; exact ⟨rfl, rfl⟩))
    (fun os started H enc _ F => by rw [OpenClaim.pre_eq_preRow]; exact PaschalTables_lifted os started H enc F)
theorem PaschalTables_plain (f : FuncId) (fn : Func) (hf : Tryd.pinned.checked.prog.funcNamed "computus/computuslaw09.PaschalTables" = some f) (hfn : Tryd.pinned.checked.prog.funcs[f]? = some fn) :
    false = Tryd.pinned.checked.prog.looks [] ∧ ∀ (j : Nat) t, fn.params[j]? = some t → Tryd.pinned.checked.prog.wantsStandIn t = false := by
  obtain rfl : f = 5 := Option.some.inj ((show Tryd.prog.funcNamed "computus/computuslaw09.PaschalTables" = some 5 by kernel_rfl).symm.trans hf) |>.symm
  obtain rfl : fn = Tryd.f5 := (Option.some.inj (Tryd.func5.symm.trans hfn)).symm
  refine ⟨by kernel_rfl, fun j t ht => ?_⟩
  rw [Tryd.params5] at ht
  have hm : t ∈ [5, 3, 3, 3] := by simpa using Array.mem_of_getElem? ht
  have hall : ([5, 3, 3, 3].all fun u => !Tryd.prog.wantsStandIn u) = true := by kernel_rfl
  exact (show Tryd.prog.wantsStandIn t = false by simpa using List.all_eq_true.1 hall t hm)
theorem PaschalTables_proved : Rows.PaschalTablesCardSaid :=
  Claim7.holds_tied_plain_at .later [] _ _ _ _ PaschalTables_said (fun _ h => by cases h) (by kernel_rfl) (fun _ h => by cases h) paschalTables_row_tie rfl ⟨rfl, rfl⟩ (mainIs_of io_list (by kernel_rfl)) rfl PaschalTables_plain (by kernel_rfl)
#print axioms PaschalTables_proved
end Go.Proofs.YtliomdnglhjfaaaDoor

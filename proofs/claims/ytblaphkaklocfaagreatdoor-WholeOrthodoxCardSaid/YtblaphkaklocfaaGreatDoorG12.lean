/- Contracts and plain lemmas: Ins, And, Ssn. -/
import Derived.Test.YtblaphkaklocfaaGreatDoorG07
import Derived.Test.YtblaphkaklocfaaGreatDoorG09
import Derived.Test.YtblaphkaklocfaaGreatDoorG11
import Derived.Sort.LotA
import Derived.Maps.AppendAt
import Derived.OneCell
import Derived.OwnWalk
set_option linter.unusedSimpArgs false
set_option linter.unusedVariables false
set_option linter.unusedSectionVars false
/- Plain: sorting by insertion; the last start that is not above a day. -/
namespace Go.Proofs.YtblaphkaklocfaaGreatDoor
open Go.ChangeShapes Go.WideShapes Go.ChangeAt Go.RowKit
set_option maxHeartbeats 1000000
set_option maxRecDepth 20000

section
variable {α : Type} [Inhabited α] (lt : α → α → Bool)
theorem swp_mid (A R : List α) (x z : α) : Sort.swp (A ++ z :: x :: R).toArray (A.length + 1) A.length = (A ++ x :: z :: R).toArray := by
  unfold Sort.swp
  have h1 : ((A ++ z :: x :: R).toArray)[A.length]! = z := by simp
  have h2 : ((A ++ z :: x :: R).toArray)[A.length + 1]! = x := by simp
  rw [h1, h2]
  simp
theorem inner_is (x : α) : ∀ (P R : List α), Sort.insInner lt 0 P.length ((P.reverse ++ x :: R).toArray) = ((insB lt x P).reverse ++ R).toArray := by
  intro P
  induction P with
  | nil => intro R; simp [Sort.insInner, insB]
  | cons z t ih =>
    intro R
    rw [List.length_cons, Sort.insInner]
    have e : (z :: t).reverse ++ x :: R = t.reverse ++ z :: x :: R := by simp
    have hl : t.reverse.length = t.length := List.length_reverse
    have h1 : ((t.reverse ++ z :: x :: R).toArray)[t.length]! = z := by rw [← hl]; simp
    have h2 : ((t.reverse ++ z :: x :: R).toArray)[t.length + 1]! = x := by rw [← hl]; simp
    rw [e, h1, h2]
    unfold insB
    by_cases h : lt x z = true
    · rw [if_pos h, if_pos (by rw [h]; simp)]
      have := swp_mid t.reverse R x z
      rw [hl] at this
      rw [this, ih]
      simp
    · rw [if_neg h, if_neg (by simp [h])]
      simp
theorem outer_is : ∀ (R P : List α), Sort.insOuter lt 0 (P.length + R.length) P.length ((P.reverse ++ R).toArray) = (R.foldl (fun P x => insB lt x P) P).reverse.toArray := by
  intro R
  induction R with
  | nil => intro P; rw [Sort.insOuter, if_neg (by simp)]; simp
  | cons x t ih =>
    intro P
    rw [Sort.insOuter, if_pos (by simp), inner_is]
    have hl : (insB lt x P).length = P.length + 1 := by
      clear ih
      induction P with
      | nil => rfl
      | cons z s ihs => unfold insB; split <;> simp [ihs]
    have := ih (insB lt x P)
    rw [hl] at this
    rw [show P.length + (x :: t).length = P.length + 1 + t.length by simp; omega]
    exact this
theorem isort_is (l : List α) : Sort.insertionSort lt l.toArray 0 l.toArray.size = (isortR lt l).reverse.toArray := by
  unfold Sort.insertionSort isortR
  cases l with
  | nil => rw [Sort.insOuter, if_neg (by simp)]; rfl
  | cons x t =>
    have := outer_is lt t [x]
    simp only [List.length_singleton, List.reverse_singleton, List.singleton_append] at this
    rw [show (x :: t).toArray.size = 1 + t.length by simp; omega]
    rw [this]
    rfl
theorem insB_length (x : α) (P : List α) : (insB lt x P).length = P.length + 1 := by
  induction P with
  | nil => rfl
  | cons z s ih => unfold insB; split <;> simp [ih]
theorem insB_perm (x : α) (P : List α) : (insB lt x P).Perm (x :: P) := by
  induction P with
  | nil => exact List.Perm.refl _
  | cons z s ih =>
    unfold insB
    split
    · exact (List.Perm.cons z ih).trans (List.Perm.swap x z s)
    · exact List.Perm.refl _
theorem isortR_perm (l : List α) : (isortR lt l).Perm l := by
  unfold isortR
  suffices h : ∀ (l P : List α), (l.foldl (fun P x => insB lt x P) P).Perm (l ++ P) by simpa using h l []
  intro l
  induction l with
  | nil => intro P; exact List.Perm.refl _
  | cons x t ih =>
    intro P
    refine (ih _).trans ?_
    refine (List.Perm.append_left t (insB_perm lt x P)).trans ?_
    simp
theorem isortR_length (l : List α) : (isortR lt l).length = l.length := (isortR_perm lt l).length_eq
/-- Where 'lt' says on which side: sorted. -/
theorem insB_sorted (G : α → α → Prop) (ht : ∀ a b c, G a b → G b c → G a c) (x : α) (P : List α) (h1 : ∀ z ∈ P, lt x z = true → G z x) (h2 : ∀ z ∈ P, lt x z = false → G x z) (hP : P.Pairwise G) : (insB lt x P).Pairwise G := by
  induction P with
  | nil => simp [insB]
  | cons z s ih =>
    rw [List.pairwise_cons] at hP
    unfold insB
    by_cases h : lt x z = true
    · rw [if_pos h, List.pairwise_cons]
      refine ⟨fun a ha => ?_, ih (fun a ha => h1 a (List.mem_cons_of_mem _ ha)) (fun a ha => h2 a (List.mem_cons_of_mem _ ha)) hP.2⟩
      rcases List.mem_cons.1 ((insB_perm lt x s).mem_iff.1 ha) with rfl | ha
      · exact h1 z (List.mem_cons_self ..) h
      · exact hP.1 a ha
    · rw [if_neg h, List.pairwise_cons]
      have hx := h2 z (List.mem_cons_self ..) (by simpa using h)
      refine ⟨fun a ha => ?_, List.pairwise_cons.2 hP⟩
      rcases List.mem_cons.1 ha with rfl | ha
      · exact hx
      · exact ht _ _ _ hx (hP.1 a ha)
end

/-- Starts with their places, from place i on. -/
def pairsF : Nat → List Int → List (Int × Int)
  | _, [] => []
  | i, s :: t => (s, (i : Int)) :: pairsF (i + 1) t
theorem pairsF_length (i : Nat) (S : List Int) : (pairsF i S).length = S.length := by
  induction S generalizing i with
  | nil => rfl
  | cons s t ih => simp [pairsF, ih]
theorem pairsF_snoc (S : List Int) (s : Int) (i : Nat) : pairsF i (S ++ [s]) = pairsF i S ++ [(s, ((i + S.length : Nat) : Int))] := by
  induction S generalizing i with
  | nil => rfl
  | cons x t ih => simp [pairsF, ih, Nat.add_assoc, Nat.add_comm 1]
def ltP (a b : Int × Int) : Bool := decide (a.1 < b.1)
/-- The first, from the last on, that is not above the bound. -/
theorem find_insB (p : Int → Bool) (x : Int × Int) (P : List (Int × Int)) (hP : P.Pairwise (fun a b => b.1 ≤ a.1)) :
    (insB ltP x P).find? (fun a => p a.1) = if p x.1 then (match P.find? (fun a => p a.1) with | none => some x | some a => if a.1 ≤ x.1 then some x else some a) else P.find? (fun a => p a.1) := by
  induction P with
  | nil => simp [insB]
  | cons z s ih =>
    rw [List.pairwise_cons] at hP
    have ih := ih hP.2
    unfold insB ltP
    by_cases h : x.1 < z.1
    · rw [if_pos (by simpa using h)]
      by_cases hz : p z.1 = true
      · rw [List.find?_cons_of_pos (by simpa using hz), List.find?_cons_of_pos (by simpa using hz)]
        split
        · show some z = if z.1 ≤ x.1 then some x else some z
          rw [if_neg (by omega)]
        · rfl
      · rw [List.find?_cons_of_neg (by simpa using hz), List.find?_cons_of_neg (by simpa using hz)]
        exact ih
    · rw [if_neg (by simpa using h)]
      by_cases hx : p x.1 = true
      · rw [List.find?_cons_of_pos (by simpa using hx), if_pos hx]
        cases hf : (z :: s).find? (fun a => p a.1) with
        | none => rfl
        | some a =>
          have ha : a ∈ z :: s := List.mem_of_find?_eq_some hf
          have : a.1 ≤ x.1 := by
            rcases List.mem_cons.1 ha with rfl | ha
            · omega
            · have := hP.1 a ha; omega
          simp [this]
      · rw [List.find?_cons_of_neg (by simpa using hx), if_neg hx]
theorem insB_desc (x : Int × Int) (P : List (Int × Int)) (hP : P.Pairwise (fun a b => b.1 ≤ a.1)) : (insB ltP x P).Pairwise (fun a b => b.1 ≤ a.1) :=
  insB_sorted ltP _ (fun a b c h1 h2 => by omega) x P (fun z _ h => by have := of_decide_eq_true h; omega) (fun z _ h => by have := of_decide_eq_false h; omega) hP
def swN (a : Nat × Int) : Int × Int := (a.2, (a.1 : Int))
theorem find_last (p : Int → Bool) (S : List Int) : ((isortR ltP (pairsF 0 S)).find? (fun a => p a.1)) = (lastLe p 0 S none).map swN := by
  unfold isortR
  suffices h : ∀ (S : List Int) (i : Nat) (P : List (Int × Int)) (b : Option (Nat × Int)), P.Pairwise (fun a b => b.1 ≤ a.1) → P.find? (fun a => p a.1) = b.map swN →
      ((pairsF i S).foldl (fun P x => insB ltP x P) P).find? (fun a => p a.1) = (lastLe p i S b).map swN by exact h S 0 [] none List.Pairwise.nil rfl
  intro S
  induction S with
  | nil => intro i P b h1 h2; simpa [pairsF, lastLe] using h2
  | cons s t ih =>
    intro i P b h1 h2
    rw [pairsF, List.foldl_cons]
    cases b with
    | none =>
      rw [lastLe]
      refine ih _ _ _ (insB_desc _ P h1) ?_
      rw [find_insB p _ P h1, h2]
      simp only [Option.map_none]
      split <;> simp [swN]
    | some a =>
      obtain ⟨j, f⟩ := a
      rw [lastLe]
      refine ih _ _ _ (insB_desc _ P h1) ?_
      rw [find_insB p _ P h1, h2]
      simp only [Option.map_some, swN]
      by_cases hp : p s = true
      · rw [if_pos hp]
        by_cases hf : f ≤ s
        · rw [if_pos hf, if_pos (by simp [hp, hf])]; rfl
        · rw [if_neg hf, if_neg (by simp [hp, hf])]; rfl
      · rw [if_neg hp, if_neg (by simp [hp])]; rfl
/-- The start of the season of a day: over the sorted starts, from the last on. -/
def finP (P : List (Int × Int)) (first day : Int) : Int × Int :=
  match P.find? (fun a => decide (a.1 ≤ day)) with
  | some a => a
  | none => (first - 1, (P.head?.getD (0, 0)).2)
theorem head_find (P : List (Int × Int)) : P.head? = P.find? (fun _ => true) := by cases P <;> simp
theorem finP_sea (S : List Int) (first day : Int) (h : S ≠ []) : finP (isortR ltP (pairsF 0 S)) first day = ((seaAt S first day).1, ((seaAt S first day).2 : Int)) := by
  unfold finP seaAt
  have h1 := find_last (fun s => decide (s ≤ day)) S
  have h2 := find_last (fun _ => true) S
  rw [h1, head_find, h2]
  cases lastLe (fun s => decide (s ≤ day)) 0 S none with
  | some a => rfl
  | none =>
    cases lastLe (fun _ => true) 0 S none with
    | some b => rfl
    | none => rfl
end Go.Proofs.YtblaphkaklocfaaGreatDoor
/- Contracts: package anchor: the day of an anchor; weekday.OnOrBefore, Nth. -/
namespace Go.Proofs.YtblaphkaklocfaaGreatDoor
open Go.ChangeShapes Go.WideShapes Go.ChangeAt Go.RowKit
set_option maxHeartbeats 1000000
set_option maxRecDepth 20000

theorem OnOrBefore_ok (n d : Int) (w : World) (h : -1099511627776 ≤ n) (h' : n ≤ 1099511627776) (h1 : 0 ≤ d) (h2 : d < 7) :
    Calls Tryz.prog 324 #[.int .i64 n, .int .i64 d] w fun e w' => e = .returned (.tuple #[.int .i64 (n - (n - d) % 7), .int .i64 0]) ∧ Kept w w' := by
  have HE := Lib.hid (show (n % 7 - d) % 7 = (n - d) % 7 from by omega)
  go_enter Tryz.func324, Tryz.ntmps324
  go_wp2_with (first | (go_at_call 142; go_in) | (go_at_call 143; refine (WOf_any _ _ (by omega) (by omega)).mono ?_; rintro e w1 ⟨rfl, rfl⟩))
  go_ret2
  exact ⟨by first | rfl | rw [HE.out], (by repeat (first | with_reducible exact Kept.refl _ | with_reducible assumption | with_reducible refine Kept.drew ?_ | with_reducible refine Kept.drewN ?_ _ | with_reducible refine Kept.alloc ?_ _ | (with_reducible refine Kept.setCell ?_ (by first | exact Nat.le_refl _ | omega | (simp; done) | (simp; omega)) _) | (with_reducible refine Kept.trans ?_ (by with_reducible assumption))))⟩
theorem Nth_pos (n d c : Int) (w : World) (h : 0 ≤ n) (h' : n ≤ 1000000000000) (h1 : 0 ≤ d) (h2 : d < 7) (c1 : 1 ≤ c) (c2 : c ≤ 8) :
    Calls Tryz.prog 323 #[.int .i64 n, .int .i64 d, .int .i64 c] w fun e w' => e = .returned (.tuple #[.int .i64 (nthDay n d c), .int .i64 0]) ∧ Kept w w' := by
  have e : nthDay n d c = n + (d - n) % 7 + 7 * (c - 1) := if_pos (by omega)
  have KO := Lib.hid (fun w => OnOrAfter_ok n d w (by omega) (by omega) h1 h2)
  have g0 : (c == 0) = false := beq_false_of_ne (by omega)
  rw [e]
  clear e
  generalize hr : (d - n) % 7 = r at *
  have hr1 : 0 ≤ r ∧ r < 7 := by omega
  clear hr
  go_enter Tryz.func323, Tryz.ntmps323
  go_wp2_with fail
  (go_at_call 98; refine (KO.out _).mono ?_; rintro e w1 ⟨rfl, hk1⟩)
  go_wp2
  go_ret2
  exact ⟨rfl, (by repeat (first | with_reducible exact Kept.refl _ | with_reducible assumption | with_reducible refine Kept.drew ?_ | with_reducible refine Kept.drewN ?_ _ | with_reducible refine Kept.alloc ?_ _ | (with_reducible refine Kept.setCell ?_ (by first | exact Nat.le_refl _ | omega | (simp; done) | (simp; omega)) _) | (with_reducible refine Kept.trans ?_ (by with_reducible assumption))))⟩
theorem Nth_neg (n d c : Int) (w : World) (h : 0 ≤ n) (h' : n ≤ 1000000000000) (h1 : 0 ≤ d) (h2 : d < 7) (c1 : -8 ≤ c) (c2 : c ≤ -1) :
    Calls Tryz.prog 323 #[.int .i64 n, .int .i64 d, .int .i64 c] w fun e w' => e = .returned (.tuple #[.int .i64 (nthDay n d c), .int .i64 0]) ∧ Kept w w' := by
  have e : nthDay n d c = n - (n - d) % 7 + 7 * (c + 1) := if_neg (by omega)
  have KO := Lib.hid (fun w => OnOrBefore_ok n d w (by omega) (by omega) h1 h2)
  have g0 : (c == 0) = false := beq_false_of_ne (by omega)
  rw [e]
  clear e
  generalize hr : (n - d) % 7 = r at *
  have hr1 : 0 ≤ r ∧ r < 7 := by omega
  clear hr
  go_enter Tryz.func323, Tryz.ntmps323
  go_wp2_with fail
  (go_at_call 324; refine (KO.out _).mono ?_; rintro e w1 ⟨rfl, hk1⟩)
  go_wp2
  go_ret2
  exact ⟨rfl, (by repeat (first | with_reducible exact Kept.refl _ | with_reducible assumption | with_reducible refine Kept.drew ?_ | with_reducible refine Kept.drewN ?_ _ | with_reducible refine Kept.alloc ?_ _ | (with_reducible refine Kept.setCell ?_ (by first | exact Nat.le_refl _ | omega | (simp; done) | (simp; omega)) _) | (with_reducible refine Kept.trans ?_ (by with_reducible assumption))))⟩
theorem ex_okD (y m d : Int) (h : 1 ≤ d ∧ d ≤ mlen false m) (h1 : 1 ≤ y) (h2 : y ≤ 1000000000) : OkD 2 y m d := by
  by_cases hm : 1 ≤ m ∧ m ≤ 12
  · refine ⟨h1, h2, hm.1, hm.2, h.1, Int.le_trans h.2 ?_⟩
    cases lp 2 y with
    | false => exact Int.le_refl _
    | true =>
      unfold mlen
      simp only [if_neg (show ¬ (m < 1 ∨ 12 < m) by omega)]
      by_cases e : m = 2
      · simp only [if_pos e]; decide
      · simp only [if_neg e]; exact Int.le_refl _
  · rw [mlen_out false m (by omega)] at h
    omega
theorem Pday_ok (o y : Int) (w : World) (hT : RTab w) (h1 : 1583 ≤ y) (h2 : y ≤ 1000000000) (ho : -80 ≤ o ∧ o ≤ 250) :
    Calls Tryz.prog 319 #[.agg #[.int .i64 o], .int .i64 y] w fun e w' => e = .returned (.tuple #[.int .i64 (esN 2 y + o), .int .i64 0]) ∧ Kept w w' := by
  have hf : Fit 2 y := by unfold Fit; omega
  have hb := esN_bounds 2 y hf
  have e0 : flE 2 y = 0 := by rcases fl_cases 2 y with ⟨_, e⟩ | ⟨a, _⟩ | ⟨a, _⟩
                              · exact e
                              · unfold Off at a; omega
                              · omega
  have hv : esV 2 y = esN 2 y := if_pos e0
  have KE := Lib.hid (fun w' (k : Kept w w') => EDay_any 2 y w' (hT.kept k) (fit_sm 2 y hf))
  rw [hv, e0] at KE
  generalize esN 2 y = n at *
  clear hT e0 hv hf
  go_enter Tryz.func319, Tryz.ntmps319
  go_wp2_with fail
  (go_at_call 44; refine (KE.out _ (by repeat (first | with_reducible exact Kept.refl _ | with_reducible assumption | with_reducible refine Kept.drew ?_ | with_reducible refine Kept.drewN ?_ _ | with_reducible refine Kept.alloc ?_ _ | (with_reducible refine Kept.setCell ?_ (by first | exact Nat.le_refl _ | omega | (simp; done) | (simp; omega)) _) | (with_reducible refine Kept.trans ?_ (by with_reducible assumption))))).mono ?_; rintro e w1 ⟨rfl, hk1⟩)
  have hB1_1 := hk1
  obtain ⟨hc1_1, hf1_1⟩ := kept_cells hB1_1
  have hz1_0_1 : w.heap.size < w1.heap.size := by have := hB1_1.size; simp at this; omega
  go_wp2
  go_ret2
  exact ⟨rfl, (by repeat (first | with_reducible exact Kept.refl _ | with_reducible assumption | with_reducible refine Kept.drew ?_ | with_reducible refine Kept.drewN ?_ _ | with_reducible refine Kept.alloc ?_ _ | (with_reducible refine Kept.setCell ?_ (by first | exact Nat.le_refl _ | omega | (simp; done) | (simp; omega)) _) | (with_reducible refine Kept.trans ?_ (by with_reducible assumption))))⟩
theorem fixed_day_ok (m d y : Int) (w : World) (hd : 1 ≤ d ∧ d ≤ mlen false m) (h1 : 1 ≤ y) (h2 : y ≤ 1000000000) :
    Calls Tryz.prog 317 #[.agg #[.int .i64 m, .int .i64 d], .int .i64 y] w fun e w' => e = .returned (.tuple #[.int .i64 (num 2 y m d), .int .i64 0]) ∧ Kept w w' := by
  have hk := ex_okD y m d hd h1 h2
  have := fixed_day m d y w
  have e1 : tdN 2 y m d = num 2 y m d := if_pos hk
  have e2 : tdE 2 y m d = 0 := by unfold tdE; rw [if_neg (by omega), if_pos hk]
  rwa [e1, e2] at this
theorem nth_day_ok (m d wd c y : Int) (w : World) (hd : 1 ≤ d ∧ d ≤ mlen false m) (h1 : 1 ≤ y) (h2 : y ≤ 1000000000) (w1 : 0 ≤ wd) (w2 : wd ≤ 6) (hc : 1 ≤ c ∧ c ≤ 8 ∨ -8 ≤ c ∧ c ≤ -1) :
    Calls Tryz.prog 321 #[.agg #[.int .i64 m, .int .i64 d, .int .i64 wd, .int .i64 c], .int .i64 y] w fun e w' => e = .returned (.tuple #[.int .i64 (nthDay (num 2 y m d) wd c), .int .i64 0]) ∧ Kept w w' := by
  have hk := ex_okD y m d hd h1 h2
  have hb := num_bounds 2 y m d hk
  rw [fst_one, fst_top, if_neg (by decide), if_neg (by decide)] at hb
  have KF := Lib.hid (fun w => fixed_day_ok m d y w hd h1 h2)
  have KN : Hid (∀ w, Calls Tryz.prog 323 #[.int .i64 (num 2 y m d), .int .i64 wd, .int .i64 c] w fun e w' => e = .returned (.tuple #[.int .i64 (nthDay (num 2 y m d) wd c), .int .i64 0]) ∧ Kept w w') := fun w => by
    rcases hc with hc | hc
    · exact Nth_pos _ _ _ w (by omega) (by omega) w1 (by omega) hc.1 hc.2
    · exact Nth_neg _ _ _ w (by omega) (by omega) w1 (by omega) hc.1 hc.2
  generalize nthDay (num 2 y m d) wd c = r at *
  generalize num 2 y m d = n at *
  clear hk hb hd hc w1 w2
  go_enter Tryz.func321, Tryz.ntmps321
  go_wp2_with fail
  (go_at_call 317; refine (KF.out _).mono ?_; rintro e w1 ⟨rfl, hk1⟩)
  have hB1_1 := hk1
  obtain ⟨hc1_1, hf1_1⟩ := kept_cells hB1_1
  have hz1_0_1 : w.heap.size < w1.heap.size := by have := hB1_1.size; simp at this; omega
  go_wp2_with fail
  (go_at_call 323; refine (KN.out _).mono ?_; rintro e w2 ⟨rfl, hk2⟩)
  have hB1_2 := Kept.trans hB1_1 hk2
  obtain ⟨hc1_2, hf1_2⟩ := kept_cells hB1_2
  have hz1_0_2 : w.heap.size < w2.heap.size := by have := hB1_2.size; simp at this; omega
  go_wp2
  go_ret2
  exact ⟨rfl, (by repeat (first | with_reducible exact Kept.refl _ | with_reducible assumption | with_reducible refine Kept.drew ?_ | with_reducible refine Kept.drewN ?_ _ | with_reducible refine Kept.alloc ?_ _ | (with_reducible refine Kept.setCell ?_ (by first | exact Nat.le_refl _ | omega | (simp; done) | (simp; omega)) _) | (with_reducible refine Kept.trans ?_ (by with_reducible assumption))))⟩
theorem ADay_ok (k m d o wd c y : Int) (w : World) (hT : RTab w) (hA : ancB k m d o wd c = true) (bc : -9223372036854775808 ≤ c ∧ c ≤ 9223372036854775807) (h1 : 1583 ≤ y) (h2 : y ≤ 1000000000) :
    Calls Tryz.prog 208 #[.agg #[.int .i64 k, .int .i64 m, .int .i64 d, .int .i64 o, .int .i64 wd, .int .i64 c], .int .i64 y] w fun e w' => e = .returned (.tuple #[.int .i64 (ancDay k m d o wd c y), .int .i64 0]) ∧ Kept w w' := by
  have KC := Lib.hid (fun w => ACheck_any k m d o wd c w bc)
  rw [hA] at KC
  have hm1 : ∀ (v : Value) (w : World), (method 449 316 v "computus/anchor.day").run Tryz.prog w = .ok (317, v) w := fun _ _ => by kernel_rfl
  have hm2 : ∀ (v : Value) (w : World), (method 449 318 v "computus/anchor.day").run Tryz.prog w = .ok (319, v) w := fun _ _ => by kernel_rfl
  have hm3 : ∀ (v : Value) (w : World), (method 449 320 v "computus/anchor.day").run Tryz.prog w = .ok (321, v) w := fun _ _ => by kernel_rfl
  unfold ancB at hA
  by_cases k1 : k = 1
  · subst k1
    rw [if_pos rfl, Bool.and_eq_true, decide_eq_true_eq] at hA
    have e : ancDay 1 m d o wd c y = num 2 y m d := by unfold ancDay; rw [if_neg (by decide), if_neg (by decide)]
    have hd : 1 ≤ d ∧ d ≤ mlen false m := of_decide_eq_true hA.2
    have KO := Lib.hid (fun w => of_fixed m d o wd c w hA.1)
    have KV := Lib.hid (fun w => fixed_day_ok m d y w hd (by omega) h2)
    rw [e]
    generalize num 2 y m d = n at *
    clear e hA hd hT hm2 hm3
    go_enter Tryz.func208, Tryz.ntmps208
    go_wp2_with fail
    (go_at_call 250; refine (KC.out _).mono ?_; rintro e w1 ⟨rfl, hk1⟩)
    have hB1_1 := hk1
    obtain ⟨hc1_1, hf1_1⟩ := kept_cells hB1_1
    have hz1_0_1 : w.heap.size < w1.heap.size := by have := hB1_1.size; simp at this; omega
    go_wp2_with fail
    (go_at_call 251; refine (KO.out _).mono ?_; rintro e w2 ⟨rfl, hk2⟩)
    have hB1_2 := Kept.trans hB1_1 hk2
    obtain ⟨hc1_2, hf1_2⟩ := kept_cells hB1_2
    have hz1_0_2 : w.heap.size < w2.heap.size := by have := hB1_2.size; simp at this; omega
    go_wp2_with fail
    (go_at_call 317; refine (KV.out _).mono ?_; rintro e w3 ⟨rfl, hk3⟩)
    have hB1_3 := Kept.trans hB1_2 hk3
    obtain ⟨hc1_3, hf1_3⟩ := kept_cells hB1_3
    have hz1_0_3 : w.heap.size < w3.heap.size := by have := hB1_3.size; simp at this; omega
    go_wp2
    go_ret2
    exact ⟨rfl, (by repeat (first | with_reducible exact Kept.refl _ | with_reducible assumption | with_reducible refine Kept.drew ?_ | with_reducible refine Kept.drewN ?_ _ | with_reducible refine Kept.alloc ?_ _ | (with_reducible refine Kept.setCell ?_ (by first | exact Nat.le_refl _ | omega | (simp; done) | (simp; omega)) _) | (with_reducible refine Kept.trans ?_ (by with_reducible assumption))))⟩
  · rw [if_neg k1] at hA
    by_cases k2 : k = 2
    · subst k2
      rw [if_pos rfl, Bool.and_eq_true, decide_eq_true_eq] at hA
      have e : ancDay 2 m d o wd c y = esN 2 y + o := by unfold ancDay; rw [if_pos rfl]
      have ho : -80 ≤ o ∧ o ≤ 250 := of_decide_eq_true hA.2
      have hz := hA.1
      clear hA
      obtain ⟨rfl, rfl, rfl, rfl⟩ := hz
      have KO := Lib.hid (fun w => of_paschal o w)
      have KV := Lib.hid (fun w' (kk : Kept w w') => Pday_ok o y w' (hT.kept kk) h1 h2 ho)
      rw [e]
      generalize esN 2 y = n at *
      clear e hT hm1 hm3 ho
      go_enter Tryz.func208, Tryz.ntmps208
      go_wp2_with fail
      (go_at_call 250; refine (KC.out _).mono ?_; rintro e w1 ⟨rfl, hk1⟩)
      have hB1_1 := hk1
      obtain ⟨hc1_1, hf1_1⟩ := kept_cells hB1_1
      have hz1_0_1 : w.heap.size < w1.heap.size := by have := hB1_1.size; simp at this; omega
      go_wp2_with fail
      (go_at_call 251; refine (KO.out _).mono ?_; rintro e w2 ⟨rfl, hk2⟩)
      have hB1_2 := Kept.trans hB1_1 hk2
      obtain ⟨hc1_2, hf1_2⟩ := kept_cells hB1_2
      have hz1_0_2 : w.heap.size < w2.heap.size := by have := hB1_2.size; simp at this; omega
      go_wp2_with fail
      (go_at_call 319; refine (KV.out _ (by repeat (first | with_reducible exact Kept.refl _ | with_reducible assumption | with_reducible refine Kept.drew ?_ | with_reducible refine Kept.drewN ?_ _ | with_reducible refine Kept.alloc ?_ _ | (with_reducible refine Kept.setCell ?_ (by first | exact Nat.le_refl _ | omega | (simp; done) | (simp; omega)) _) | (with_reducible refine Kept.trans ?_ (by with_reducible assumption))))).mono ?_; rintro e w3 ⟨rfl, hk3⟩)
      have hB1_3 := Kept.trans hB1_2 hk3
      obtain ⟨hc1_3, hf1_3⟩ := kept_cells hB1_3
      have hz1_0_3 : w.heap.size < w3.heap.size := by have := hB1_3.size; simp at this; omega
      go_wp2
      go_ret2
      exact ⟨rfl, (by repeat (first | with_reducible exact Kept.refl _ | with_reducible assumption | with_reducible refine Kept.drew ?_ | with_reducible refine Kept.drewN ?_ _ | with_reducible refine Kept.alloc ?_ _ | (with_reducible refine Kept.setCell ?_ (by first | exact Nat.le_refl _ | omega | (simp; done) | (simp; omega)) _) | (with_reducible refine Kept.trans ?_ (by with_reducible assumption))))⟩
    · rw [if_neg k2] at hA
      by_cases k3 : k = 3
      · subst k3
        rw [if_pos rfl, Bool.and_eq_true, decide_eq_true_eq] at hA
        have e : ancDay 3 m d o wd c y = nthDay (num 2 y m d) wd c := by unfold ancDay; rw [if_neg (by decide), if_pos rfl]
        have hn := of_decide_eq_true hA.2
        have ho := hA.1
        clear hA
        subst ho
        have KO := Lib.hid (fun w => of_nth m d wd c w)
        have KV := Lib.hid (fun w => nth_day_ok m d wd c y w hn.1 (by omega) h2 hn.2.1.1 hn.2.1.2 (by omega))
        rw [e]
        generalize nthDay (num 2 y m d) wd c = n at *
        clear e hT hm1 hm2 hn
        go_enter Tryz.func208, Tryz.ntmps208
        go_wp2_with fail
        (go_at_call 250; refine (KC.out _).mono ?_; rintro e w1 ⟨rfl, hk1⟩)
        have hB1_1 := hk1
        obtain ⟨hc1_1, hf1_1⟩ := kept_cells hB1_1
        have hz1_0_1 : w.heap.size < w1.heap.size := by have := hB1_1.size; simp at this; omega
        go_wp2_with fail
        (go_at_call 251; refine (KO.out _).mono ?_; rintro e w2 ⟨rfl, hk2⟩)
        have hB1_2 := Kept.trans hB1_1 hk2
        obtain ⟨hc1_2, hf1_2⟩ := kept_cells hB1_2
        have hz1_0_2 : w.heap.size < w2.heap.size := by have := hB1_2.size; simp at this; omega
        go_wp2_with fail
        (go_at_call 321; refine (KV.out _).mono ?_; rintro e w3 ⟨rfl, hk3⟩)
        have hB1_3 := Kept.trans hB1_2 hk3
        obtain ⟨hc1_3, hf1_3⟩ := kept_cells hB1_3
        have hz1_0_3 : w.heap.size < w3.heap.size := by have := hB1_3.size; simp at this; omega
        go_wp2
        go_ret2
        exact ⟨rfl, (by repeat (first | with_reducible exact Kept.refl _ | with_reducible assumption | with_reducible refine Kept.drew ?_ | with_reducible refine Kept.drewN ?_ _ | with_reducible refine Kept.alloc ?_ _ | (with_reducible refine Kept.setCell ?_ (by first | exact Nat.le_refl _ | omega | (simp; done) | (simp; omega)) _) | (with_reducible refine Kept.trans ?_ (by with_reducible assumption))))⟩
      · rw [if_neg k3] at hA
        cases hA
end Go.Proofs.YtblaphkaklocfaaGreatDoor
/- Contract: season.Starts. -/
namespace Go.Proofs.YtblaphkaklocfaaGreatDoor
open Go.ChangeShapes Go.WideShapes Go.ChangeAt Go.RowKit
set_option maxHeartbeats 2000000
set_option maxRecDepth 20000

theorem info_int : (Tryz.prog.info? 3).map (fun i => (i.zero, i.size, i.bytes)) = some (some (.int .i64 0), 1, 8) := by kernel_rfl
theorem owns_kept {w w' : World} {b n s : Nat} {e : TypeId} {v : Value} {xs : List Value} (h : w.ownsRow b e s v n xs) (k : Kept w w') : w'.ownsRow b e s v n xs := by
  obtain ⟨h1, h2 | ⟨g, cap, cur, h3, h4, h5, h6⟩⟩ := h
  · exact ⟨h1, .inl h2⟩
  · exact ⟨h1, .inr ⟨g, cap, cur, h3, h4, (k.block g (Array.getElem?_eq_some_iff.1 h5).1).trans h5, h6⟩⟩
theorem owns_form {w : World} {b n s : Nat} {e : TypeId} {v : Value} {xs : List Value} (h : w.ownsRow b e s v n xs) : ∃ o c, v = .slice o n c := by
  obtain ⟨_, ⟨rfl, rfl⟩ | ⟨g, cap, cur, rfl, _⟩⟩ := h
  · exact ⟨none, 0, rfl⟩
  · exact ⟨some ⟨g, 0, none⟩, cap, rfl⟩
theorem owns_base {w : World} {b b2 n s : Nat} {e : TypeId} {v : Value} {xs : List Value} (h : w.ownsRow b e s v n xs) (hb : b2 ≤ b) : w.ownsRow b2 e s v n xs := by
  obtain ⟨h1, h2 | ⟨g, cap, cur, h3, h4, h5, h6⟩⟩ := h
  · exact ⟨h1, .inl h2⟩
  · exact ⟨h1, .inr ⟨g, cap, cur, h3, Nat.le_trans hb h4, h5, h6⟩⟩
theorem cell_one_new (w : World) (x : Value) (t : TypeId) : ∀ j u, [x][j]? = some u → (w.alloc (.cells #[x] t)).cell? ((⟨w.heap.size, 0, none⟩ : Addr).add j) = some u := by
  intro j u hj
  match j, hj with
  | 0, hj => simp at hj; subst hj; simp [Addr.add]
theorem catB_parts {f : Int} {L M : List Rec} (h : catB f L M = true) : (0 ≤ f ∧ f ≤ 9) ∧ (1 ≤ L.length ∧ L.length ≤ 20) ∧ M.length ≤ 400 ∧ (∀ r ∈ L, seaR r = true) ∧ (∀ r ∈ M, feaR r = true) ∧ (ids L ++ ids M).Nodup := of_decide_eq_true h
theorem daysOf_snoc (y : Int) (L : List Rec) (j : Nat) (hj : j < L.length) : daysOf y (L.take (j + 1)) = daysOf y (L.take j) ++ [recDay y L[j]!] := by
  rw [take_ids L j hj]; simp [daysOf]
theorem seaR_anc {r : Rec} (h : seaR r = true) : ancB r.k r.m r.d r.o r.wd r.c = true := by
  unfold seaR seaB at h
  simp only [Bool.and_eq_true] at h
  exact h.2.2.2
theorem feaR_anc {r : Rec} (h : feaR r = true) : ancB r.k r.m r.d r.o r.wd r.c = true := by
  unfold feaR feaB at h
  simp only [Bool.and_eq_true] at h
  exact h.2.2.2
set_option maxHeartbeats 8000000 in
theorem Starts_ok (f : Int) (o o' : Option Addr) (q q' : Nat) (L M : List Rec) (y : Int) (w : World) (hT : RTab w) (hL : IsRecs w o L) (hM : IsRecs w o' M) (okL : ∀ r ∈ L, r.ok) (okM : ∀ r ∈ M, r.ok)
    (hB : catB f L M = true) (h1 : 1583 ≤ y) (h2 : y ≤ 1000000000) :
    Calls Tryz.prog 253 #[.agg #[.int .i64 f, .slice o L.length q, .slice o' M.length q'], .int .i64 y] w fun e w' => ∃ v, e = .returned (.tuple #[v, .int .i64 0]) ∧ w'.ownsRow w.heap.size 3 1 v L.length ((daysOf y L).map (Value.int .i64)) ∧ Kept w w' := by
  obtain ⟨i0, hi, hz0, hz1, hz2⟩ := info_parts info_int
  have KC := Lib.hid (fun w' (k : Kept w w') => CCheck_any f o o' q q' L M w' (hL.kept k) (hM.kept k) okL okM)
  rw [hB, chV_t] at KC
  obtain ⟨_, ⟨hl1, hl2⟩, _, hsea, _⟩ := catB_parts hB
  have HS := Lib.hid (fun j hj => seaR_anc (hsea _ (mem_at L j hj)))
  have HL := Lib.hid hL
  have HK := Lib.hid (fun j hj => okL _ (mem_at L j hj))
  have HD := Lib.hid (daysOf_snoc y L)
  have HT := Lib.hid hT
  have HTk := Lib.hid (List.take_length (l := L))
  clear hL hM okL okM hsea hB hT
  go_enter Tryz.func253, Tryz.ntmps253
  go_wp2_with fail
  (go_at_call 152; refine (KC.out _ (by repeat (first | with_reducible exact Kept.refl _ | with_reducible assumption | with_reducible refine Kept.drew ?_ | with_reducible refine Kept.drewN ?_ _ | with_reducible refine Kept.alloc ?_ _ | (with_reducible refine Kept.setCell ?_ (by first | exact Nat.le_refl _ | omega | (simp; done) | (simp; omega)) _) | (with_reducible refine Kept.trans ?_ (by with_reducible assumption))))).mono ?_; rintro e w1 ⟨rfl, hk1⟩)
  have hB1_1 := hk1
  obtain ⟨hc1_1, hf1_1⟩ := kept_cells hB1_1
  have hz1_0_1 : w.heap.size < w1.heap.size := by have := hB1_1.size; simp at this; omega
  have hkw1 : Kept w w1 := ((Kept.refl w).alloc _).trans hk1
  have cL : w1.cell? ⟨w.heap.size, 1, none⟩ = some (.slice o L.length q) := by rw [hc1_1 _ _ (by simp), cell_here]; rfl
  have hzL := lt_cellL cL
  clear KC
  go_wp2_with fail
  go_loopw [7, 26] (fun v i wr => ∃ j : Nat, j ≤ L.length ∧ i = .int .i64 j ∧ wr.ownsRow w1.heap.size 3 1 v j ((daysOf y (L.take j)).map (Value.int .i64)) ∧ Kept w1 wr) (fun _ i _ => (L.length - intOf i).toNat)
  case atStart => exact ⟨0, by omega, rfl, World.ownsRow_nil _ _ _ _, Kept.refl _⟩
  case round =>
    obtain ⟨j, hj, rfl, hown, hkr⟩ := hrel
    by_cases hlt : j < L.length
    · obtain ⟨b, off, rfl, c0, c1, c2, c3, c4, c5, c6, c7, c8⟩ := (HL.out.kept (hkw1.trans hkr)).cells j hlt
      have cL2 := (hkr.cell _ _ hzL).trans cL
      have HJ := Lib.hid (HD.out j hlt)
      have hok := HK.out j hlt
      have hanc := HS.out j hlt
      generalize hr : L[j]! = r at *
      obtain ⟨s, xa, xb, xk, xm, xd, xo, xw, xc⟩ := r
      dsimp only at c0 c1 c2 c3 c4 c5 c6 c7 c8
      obtain ⟨hs1, hs2⟩ := hok
      dsimp only at hs1 hs2 hanc
      have KA := Lib.hid (fun w' (k : Kept wr w') => ADay_ok xk xm xd xo xw xc y w' (HT.out.kept (hkw1.trans (hkr.trans k))) hanc hs2 h1 h2)
      have HR := Lib.hid (show recDay y ⟨s, xa, xb, xk, xm, xd, xo, xw, xc⟩ = ancDay xk xm xd xo xw xc y from rfl)
      generalize ancDay xk xm xd xo xw xc y = n at *
      clear hr hanc
      obtain ⟨oo, cc, rfl⟩ := owns_form hown
      go_wp2_with fail
      go_at_call 208
      (with_reducible refine (KA.out _ ?_).mono ?_)
      · exact (by repeat (first | with_reducible exact Kept.refl _ | with_reducible assumption | with_reducible refine Kept.drew ?_ | with_reducible refine Kept.drewN ?_ _ | with_reducible refine Kept.alloc ?_ _ | (with_reducible refine Kept.setCell ?_ (by first | exact Nat.le_refl _ | omega | (simp; done) | (simp; omega)) _) | (with_reducible refine Kept.trans ?_ (by with_reducible assumption))))
      rintro e w2 ⟨rfl, hk2⟩
      have hk3 : Kept wr w2 := Kept.trans ((Kept.refl wr).alloc _) hk2
      have hown2 := (owns_kept hown hk3).alloc (.cells #[.int .i64 n] 3)
      clear hown c0 c1 c2 c3 c4 c5 c6 c7 c8 cL2
      go_wp2_with (at_builtin; refine wpList_append_own _ rfl _ _ 52 rfl w1.heap.size 3 i0 (.int .i64 0) 1 8 Tryz.underlying52 hi hz0 hz1 hz2 rfl (by decide) _ _ _ rfl hown2 ⟨w2.heap.size, 0, none⟩ 1 1 [.int .i64 n] rfl rfl ?c1 ?c2 ?c3 ?c4 ?c5 ?_)
      case c1 => exact cell_one_new w2 (.int .i64 n) 3
      case c2 => simp [Value.oneCell']
      case c3 => unfold maxLen; omega
      case c4 => omega
      case c5 => have := hk3.size; have := hkr.size; simp; omega
      intro v' w3 hown3 hgrow _
      have Kw : Kept w1 w3 := Below.grown ((hkr.trans hk3).alloc (.cells #[.int .i64 n] 3)) hgrow (by have := hk3.size; have := hkr.size; simp; omega) (fun q hq => by have := (hown2.lt q hq).1; omega)
      have HO : Hid (w3.ownsRow w1.heap.size 3 1 v' (j + 1) ((daysOf y (L.take (j + 1))).map (Value.int .i64))) := (show _ from by rw [HJ.out, HR.out, List.map_append]; exact hown3)
      clear hown3 hown2 hgrow hk2 hk3
      go_wp2
      go_roundw
      case rel => exact ⟨j + 1, by omega, by go_num, HO.out, Kw⟩
      case measure => simp [intOf]; omega
    · obtain rfl : j = L.length := by omega
      rw [HTk.out] at hown
      have HO := Lib.hid (owns_base hown hkw1.size)
      clear hown
      go_wp2
      go_ret2
      exact ⟨_, rfl, HO.out, hkw1.trans hkr⟩
end Go.Proofs.YtblaphkaklocfaaGreatDoor

/- Contracts and plain lemmas: Scn6, Scn7, Prs1, Prs2. -/
import Derived.Test.YtblaphkaklocfaaGreatDoorG26
import Derived.Lib.OthersKept
set_option linter.unusedSimpArgs false
set_option linter.unusedVariables false
set_option linter.unusedSectionVars false
/- Contract: the scanner's Number, where a number comes that begins with a digit other than 0. -/
namespace Go.Proofs.YtblaphkaklocfaaGreatDoor
open Go.ChangeShapes Go.WideShapes Go.ChangeAt Go.RowKit
set_option maxHeartbeats 2000000
set_option maxRecDepth 20000

theorem take_no (S : Nat) (s : ByteArray) (k N : Nat) (cap : Array Value) (p : Int → Bool) (w : World) (h : Scn w S s k) (hs : s.size ≤ 1000000000000) (hv : Says w N cap p) (hh : hit s k p = false) :
    Calls Tryz.prog 223 #[.pointer (some ⟨S, 0, none⟩), .func (.func N) #[] cap] w fun e w' => e = .returned (.bool false) ∧ Kept w w' :=
  (take_ok S s k N cap p w h hs hv).mono fun e w' q => ⟨by rw [q.1, hh], q.2.2.2 hh⟩
theorem take_yes (S : Nat) (s : ByteArray) (k N : Nat) (cap : Array Value) (p : Int → Bool) (w : World) (h : Scn w S s k) (hs : s.size ≤ 1000000000000) (hv : Says w N cap p) (hh : hit s k p = true) :
    Calls Tryz.prog 223 #[.pointer (some ⟨S, 0, none⟩), .func (.func N) #[] cap] w fun e w' => e = .returned (.bool true) ∧ Scn w' S s (k + 1) ∧ w.grownBy w' (some S) :=
  (take_ok S s k N cap p w h hs hv).mono fun e w' q => ⟨by rw [q.1, hh], by have := q.2.1; rw [past, if_pos hh] at this; exact this, q.2.2.1⟩
/-- The number that some digits denote. -/
def numV (s : ByteArray) (a : Nat) : Nat → Int
  | 0 => 0
  | j + 1 => 10 * numV s a j + (bt s (a + j) - 48)
/-- A number's digits come: m of them, the first of them not 0. -/
structure NumAt (s : ByteArray) (k m : Nat) : Prop where
  h1 : 1 ≤ m
  h2 : m ≤ 10
  hl : hit s k leaP = true
  hd : ∀ j, 1 ≤ j → j < m → hit s (k + j) digP = true
  he : m = 10 ∨ hit s (k + m) digP = false
theorem leaP_dig {c : Int} (h : leaP c = true) : digP c = true ∧ c ≠ 48 ∧ c ≠ 45 := by
  unfold leaP at h
  unfold digP
  simp only [Bool.and_eq_true, decide_eq_true_eq] at *
  omega
theorem NumAt.dig {s : ByteArray} {k m : Nat} (h : NumAt s k m) (j : Nat) (hj : j < m) : k + j < s.size ∧ 48 ≤ bt s (k + j) ∧ bt s (k + j) ≤ 57 := by
  have hh : hit s (k + j) digP = true := by
    by_cases e : j = 0
    · subst e
      have := h.hl
      unfold hit at *
      simp only [Bool.and_eq_true] at *
      exact ⟨this.1, (leaP_dig this.2).1⟩
    · exact h.hd j (by omega) hj
  refine ⟨hit_lt hh, ?_⟩
  unfold hit digP at hh
  simp only [Bool.and_eq_true, decide_eq_true_eq] at hh
  exact hh.2
theorem numV_bd (s : ByteArray) (a m : Nat) (h : ∀ j, j < m → 48 ≤ bt s (a + j) ∧ bt s (a + j) ≤ 57) : ∀ j, j ≤ m → 0 ≤ numV s a j ∧ numV s a j < 10 ^ j
  | 0, _ => by simp [numV]
  | j + 1, hj => by
    have h1 := numV_bd s a m h j (by omega)
    have h2 := h j (by omega)
    rw [numV, Int.pow_succ]
    omega
/-- The loop over a number's digits: pos of them are read. -/
structure Num2 (S F : Nat) (s : ByteArray) (k : Nat) (t : ByteArray) (B : Nat) (w : World) (pos : Nat) (wr : World) : Prop where
  it : wr.heap[B]? = some (.stringIter t pos)
  hS : Scn wr S s (k + t.size)
  hF : Blk wr F #[.int .i64 (numV s k pos)] 3
  hM : Moved [S, F] w wr
theorem Num2.step {S F : Nat} {s : ByteArray} {k : Nat} {t : ByteArray} {B : Nat} {w : World} {pos : Nat} {wr : World} (h : Num2 S F s k t B w pos wr) (hF : F < B) (hS : S < B) (hw : w.heap.size ≤ B) (n : Int) (hn : n = numV s k (pos + 1)) :
    Num2 S F s k t B w (pos + 1) ((wr.iterAt B t (pos + 1)).setCell ⟨F, 0, none⟩ (.int .i64 n)) := by
  have hI := Lib.iterAt_heap wr B t pos (pos + 1) h.it
  have hS2 : Scn (wr.iterAt B t (pos + 1)) S s (k + t.size) := (Lib.iterAt_other wr B S t (pos + 1) (by omega)).trans h.hS
  have hF2 : Blk (wr.iterAt B t (pos + 1)) F #[.int .i64 (numV s k pos)] 3 := (Lib.iterAt_other wr B F t (pos + 1) (by omega)).trans h.hF
  have hM2 : Moved [S, F] w (wr.iterAt B t (pos + 1)) := ⟨h.hM.os, h.hM.tape, h.hM.output, by rw [Lib.iterAt_size]; exact h.hM.size, fun i hi hni => (Lib.iterAt_other wr B i t (pos + 1) (by omega)).trans (h.hM.block i hi hni)⟩
  subst hn
  exact ⟨(Below.heap_setCell _ _ _ B (show B ≠ F by omega)).trans hI, Blk.other hS2 (blk_ne hS2 hF2 (by decide)) _ _, blk_set hF2 _ rfl, hM2.trans (moved_set _ _ _ _ (List.mem_cons_of_mem _ (List.mem_cons_self ..)))⟩
theorem iterPos_at {w : World} {B : Nat} {t : ByteArray} {pos : Nat} (h : w.heap[B]? = some (.stringIter t pos)) : w.iterPos B = pos := by simp [World.iterPos, h]
theorem pow10_le (j : Nat) (h : j < 11) : (10 : Int) ^ j ≤ 10000000000 := by
  have : ∀ j : Fin 11, (10 : Int) ^ (j : Nat) ≤ 10000000000 := by decide
  exact this ⟨j, h⟩
theorem Num1_ok (S : Nat) (s : ByteArray) (k m a3 F : Nat) (w : World) (hS : Scn w S s k) (h3 : Blk w a3 #[.pointer (some ⟨S, 0, none⟩)] 141) (hF : Blk w F #[.int .i64 0] 3) (hn : NumAt s k m) (hs : s.size ≤ 1000000000000) :
    Calls Tryz.prog 224 #[.pointer (some ⟨a3, 0, none⟩), .pointer (some ⟨F, 0, none⟩)] w fun e w' => e = .returned (.tuple #[]) ∧ Scn w' S s (k + m) ∧ Blk w' F #[.int .i64 (numV s k m)] 3 ∧ Moved [S, F] w w' := by
  have hmf : ∀ (fn : Fn) (first cap : Array Value) (w : World), (Instr.makeFunc fn first cap).run Tryz.prog w = .ok (.func fn first cap) w := fun _ _ _ _ => rfl
  have c1 : w.cell? ⟨a3, 0, none⟩ = some (.pointer (some ⟨S, 0, none⟩)) := by rw [h3.cell]; rfl
  have hl3 := h3.lt
  have HS := Lib.hid hS
  have H3 := Lib.hid h3
  have HF := Lib.hid hF
  have HN := Lib.hid hn
  have hlea : Hid (leaP (bt s k) = true) := (show _ = _ from by have := hn.hl; unfold hit at this; simp only [Bool.and_eq_true] at this; exact this.2)
  have n1 : Hid (hit s k (fun c => decide (c = 48)) = false) := (show _ = _ from by unfold hit; dsimp only; rw [decide_eq_false (leaP_dig hlea.out).2.1, Bool.and_false])
  have n2 : Hid (hit s k (fun c => decide (c = 45)) = false) := (show _ = _ from by unfold hit; dsimp only; rw [decide_eq_false (leaP_dig hlea.out).2.2, Bool.and_false])
  clear hS h3 hF hn
  go_enter Tryz.func224, Tryz.ntmps224
  go_wp2_with fail
  have KI := Lib.hid (fun w' => is_ok 48 w')
  have KT := Lib.hid (fun a w' (q : Kept w w') (hy : Says w' _ _ _) => take_no S s k 263 #[.pointer (some ⟨a, 0, none⟩)] _ w' (HS.out.kept q) hs hy n1.out)
  go_region_held3 (fun w' => Kept w w' ∧ (∀ b o, b < w.heap.size → w'.cell? ⟨b, o, none⟩ = w.cell? ⟨b, o, none⟩)) (exact held_of (by (repeat (first | with_reducible assumption | with_reducible exact Kept.refl _ | with_reducible apply Kept.drew | with_reducible apply Kept.alloc | (with_reducible refine Kept.setCell ?_ (by first | exact Nat.le_refl _ | (dsimp only; omega)) _))))) (first | (go_at_call 225; (with_reducible refine (KI.out _).mono ?_); rintro e w1 ⟨a, rfl, hsy, hk1⟩; have kk1 : Kept w w1 := Kept.trans (by (repeat (first | with_reducible assumption | with_reducible exact Kept.refl _ | with_reducible apply Kept.drew | with_reducible apply Kept.alloc | (with_reducible refine Kept.setCell ?_ (by first | exact Nat.le_refl _ | (dsimp only; omega)) _)))) hk1) | (go_at_call 223; (with_reducible refine (KT.out a _ ?_ (hsy.kept ?_)).mono ?_); (· (repeat (first | with_reducible assumption | with_reducible exact Kept.refl _ | with_reducible apply Kept.drew | with_reducible apply Kept.alloc | (with_reducible refine Kept.setCell ?_ (by first | exact Nat.le_refl _ | (dsimp only; omega)) _)))); (· (repeat (first | with_reducible assumption | with_reducible exact Kept.refl _ | with_reducible apply Kept.drew | with_reducible apply Kept.alloc | (with_reducible refine Kept.setCell ?_ (by first | exact Nat.le_refl _ | (dsimp only; omega)) _)))); rintro e w2 ⟨rfl, hk2⟩; have kk2 : Kept w w2 := Kept.trans (by (repeat (first | with_reducible assumption | with_reducible exact Kept.refl _ | with_reducible apply Kept.drew | with_reducible apply Kept.alloc | (with_reducible refine Kept.setCell ?_ (by first | exact Nat.le_refl _ | (dsimp only; omega)) _)))) hk2))
  clear KI KT hsy hk1 hk2 kk1
  have KI := Lib.hid (fun w' => is_ok 45 w')
  have KT := Lib.hid (fun a w' (q : Kept w w') (hy : Says w' _ _ _) => take_no S s k 263 #[.pointer (some ⟨a, 0, none⟩)] _ w' (HS.out.kept q) hs hy n2.out)
  go_wp2_with fail
  go_region_held3 (fun w' => Kept w w' ∧ (∀ b o, b < w.heap.size → w'.cell? ⟨b, o, none⟩ = w.cell? ⟨b, o, none⟩)) (exact held_of (by (repeat (first | with_reducible assumption | with_reducible exact Kept.refl _ | with_reducible apply Kept.drew | with_reducible apply Kept.alloc | (with_reducible refine Kept.setCell ?_ (by first | exact Nat.le_refl _ | (dsimp only; omega)) _))))) (first | (go_at_call 225; (with_reducible refine (KI.out _).mono ?_); rintro e w3 ⟨b, rfl, hsy, hk3⟩; have kk3 : Kept w w3 := Kept.trans (by (repeat (first | with_reducible assumption | with_reducible exact Kept.refl _ | with_reducible apply Kept.drew | with_reducible apply Kept.alloc | (with_reducible refine Kept.setCell ?_ (by first | exact Nat.le_refl _ | (dsimp only; omega)) _)))) hk3) | (go_at_call 223; (with_reducible refine (KT.out b _ ?_ (hsy.kept ?_)).mono ?_); (· (repeat (first | with_reducible assumption | with_reducible exact Kept.refl _ | with_reducible apply Kept.drew | with_reducible apply Kept.alloc | (with_reducible refine Kept.setCell ?_ (by first | exact Nat.le_refl _ | (dsimp only; omega)) _)))); (· (repeat (first | with_reducible assumption | with_reducible exact Kept.refl _ | with_reducible apply Kept.drew | with_reducible apply Kept.alloc | (with_reducible refine Kept.setCell ?_ (by first | exact Nat.le_refl _ | (dsimp only; omega)) _)))); rintro e w4 ⟨rfl, hk4⟩; have kk4 : Kept w w4 := Kept.trans (by (repeat (first | with_reducible assumption | with_reducible exact Kept.refl _ | with_reducible apply Kept.drew | with_reducible apply Kept.alloc | (with_reducible refine Kept.setCell ?_ (by first | exact Nat.le_refl _ | (dsimp only; omega)) _)))) hk4))
  have hS4 := HS.out.kept kk4
  have d5 : w4.cell? ⟨S, 1, none⟩ = some (.int .i64 k) := by rw [Blk.cell hS4]; rfl
  have d1 : w4.cell? ⟨a3, 0, none⟩ = some (.pointer (some ⟨S, 0, none⟩)) := by rw [(H3.out.kept kk4).cell]; rfl
  have HS4 := Lib.hid hS4
  have H34 := Lib.hid (H3.out.kept kk4)
  have HF4 := Lib.hid (HF.out.kept kk4)
  have K4 := Lib.hid kk4
  have HM := Lib.hid (fun w' (q : Kept w4 w') => must_ok S s k 226 #[] leaP w' (HS4.out.kept q) hs (leading_says w') HN.out.hl)
  have lS4 := Blk.lt hS4
  have l34 := H34.out.lt
  clear KI KT hsy hk3 hk4 kk3 kk2 kk4 hS4 c1 hl3
  go_wp2_with fail
  go_at_call 175
  refine (HM.out _ (Kept.refl _)).mono ?_
  rintro e w5 ⟨rfl, hS5, hg5⟩
  have HS5 := Lib.hid hS5
  have H35 := Lib.hid (Blk.grown H34.out hg5 (fun e => blk_ne H34.out HS4.out (by decide) (Option.some.inj e)))
  have HF5 := Lib.hid (Blk.grown HF4.out hg5 (fun e => blk_ne HF4.out HS4.out (by decide) (Option.some.inj e)))
  have HM5 := Lib.hid ((K4.out.moved [S, F]).trans (moved_grown hg5 (List.mem_cons_self ..)))
  have hm1 := HN.out.h1
  have hm2 := HN.out.h2
  clear HM hS5 hg5 HS4 H34 HF4 K4 lS4 l34 d5 d1
  go_wp2_with fail
  go_loopw [] (fun wr => ∃ j : Nat, 1 ≤ j ∧ j ≤ m ∧ Hid (Scn wr S s (k + j)) ∧ Hid (Blk wr a3 #[.pointer (some ⟨S, 0, none⟩)] 141) ∧ Hid (Blk wr F #[.int .i64 0] 3) ∧ Hid (Moved [S, F] w wr)) (fun wr => k + m - atOf wr S)
  case atStart => exact ⟨1, Nat.le_refl _, hm1, HS5, H35, HF5, HM5⟩
  case round =>
    obtain ⟨j, hj1, hjm, HSr, H3r, HFr, HMr⟩ := hrel
    have d1 : wr.cell? ⟨a3, 0, none⟩ = some (.pointer (some ⟨S, 0, none⟩)) := by rw [H3r.out.cell]; rfl
    have d5 : wr.cell? ⟨S, 1, none⟩ = some (.int .i64 ((k + j : Nat) : Int)) := by rw [Blk.cell HSr.out]; rfl
    have lS := Blk.lt HSr.out
    have l3 := H3r.out.lt
    have hw : wrap64 (((k + j : Nat) : Int) - (k : Int)) = (j : Int) := by unfold wrap64; omega
    have hw2 : IntKind.i64.wrap (((k + j : Nat) : Int) - (k : Int)) = (j : Int) := by rw [IntKind.wrap_i64]; omega
    have hw3 : IntKind.i64.wrap ((k : Int) + (j : Int) - (k : Int)) = (j : Int) := by rw [IntKind.wrap_i64]; omega
    have hw4 : wrap64 ((k : Int) + (j : Int) - (k : Int)) = (j : Int) := by unfold wrap64; omega
    by_cases hlt : j < m
    · have hj10 : j < 10 := by omega
      have hj10z : (j : Int) < 10 := by omega
      have KT := Lib.hid (take_yes S s (k + j) 227 #[] digP wr HSr.out hs (digit_says _) (HN.out.hd j hj1 hlt))
      have hA := Lib.hid (Scn.at HSr.out)
      go_wp2_with fail
      go_at_call 223
      refine KT.out.mono ?_
      rintro e w6 ⟨rfl, hS6, hg6⟩
      have HS6 := Lib.hid hS6
      have H36 := Lib.hid (Blk.grown H3r.out hg6 (fun e => blk_ne H3r.out HSr.out (by decide) (Option.some.inj e)))
      have HF6 := Lib.hid (Blk.grown HFr.out hg6 (fun e => blk_ne HFr.out HSr.out (by decide) (Option.some.inj e)))
      have HM6 := Lib.hid (HMr.out.trans (moved_grown hg6 (List.mem_cons_self ..)))
      clear KT hS6 hg6
      go_wp2
      exact ⟨⟨j + 1, by omega, by omega, HS6, H36, HF6, HM6⟩, by rw [hA.out, Scn.at HS6.out]; omega⟩
    · obtain rfl : j = m := by omega
      by_cases hj10 : j < 10
      · have hj10z : (j : Int) < 10 := by omega
        have KT := Lib.hid (take_no S s (k + j) 227 #[] digP wr HSr.out hs (digit_says _) (HN.out.he.resolve_left (by omega)))
        go_wp2_with fail
        go_at_call 223
        refine KT.out.mono ?_
        rintro e w6 ⟨rfl, hk6⟩
        have HS6 := Lib.hid (HSr.out.kept hk6)
        have H36 := Lib.hid (H3r.out.kept hk6)
        have HF6 := Lib.hid (HFr.out.kept hk6)
        have HM6 := Lib.hid (HMr.out.trans (hk6.moved _))
        clear KT hk6
        have d1 : w6.cell? ⟨a3, 0, none⟩ = some (.pointer (some ⟨S, 0, none⟩)) := by rw [H36.out.cell]; rfl
        have d5 : w6.cell? ⟨S, 1, none⟩ = some (.int .i64 ((k + j : Nat) : Int)) := by rw [Blk.cell HS6.out]; rfl
        have d4 : w6.cell? ⟨S, 0, none⟩ = some (.string s) := by rw [Blk.cell HS6.out]; rfl
        have hkj : k ≤ k + j := by omega
        have hkj2 : (k : Int) ≤ (k : Int) + (j : Int) := by omega
        have hks : k + j ≤ s.size := by have := (HN.out.dig (j - 1) (by omega)).1; omega
        have hks2 : (k : Int) + (j : Int) ≤ (s.size : Int) := by omega
        go_wp2_with fail
        go_region
        obtain ⟨t, ht⟩ : ∃ x, x = s.extract k (k + j) := ⟨_, rfl⟩
        rw [← ht]
        have htz : t.size = j := by rw [ht, ByteArray.size_extract]; omega
        have hbt : Hid (∀ pos, pos < j → bt t pos = bt s (k + pos)) := (show ∀ pos, pos < j → bt t pos = bt s (k + pos) from fun pos hp => by rw [ht]; exact bt_ext s k j pos hp hks)
        have kI : Kept w6 (w6.drew.iter t 0) := (Kept.refl w6).drew.alloc _
        have hIt : (w6.drew.iter t 0).heap[w6.heap.size]? = some (.stringIter t 0) := World.iter_heap w6.drew t 0
        have Q0 := Lib.hid (⟨hIt, by rw [htz]; exact HS6.out.kept kI, HF6.out.kept kI, HM6.out.trans (kI.moved _)⟩ : Num2 S F s k t w6.heap.size w 0 (w6.drew.iter t 0))
        have hlF6 := HF6.out.lt
        have hlS6 := Blk.lt HS6.out
        have hlw6 : w.heap.size ≤ w6.heap.size := HM6.out.size
        have hdg := Lib.hid (fun pos (hp : pos < j) => (HN.out.dig pos hp).2)
        clear hIt kI d1 d5 d4 ht
        generalize w6.heap.size = B at *
        go_wp2_with fail
        go_loopw [] (fun wr => ∃ pos : Nat, pos ≤ j ∧ Hid (Num2 S F s k t B w pos wr)) (fun wr => j - wr.iterPos B)
        case atStart => exact ⟨0, Nat.zero_le _, Q0⟩
        case round =>
          as_aux_lemma =>
          obtain ⟨pos, hle, HQ⟩ := hrel
          have hit := HQ.out.it
          have hip := Lib.hid (iterPos_at HQ.out.it)
          by_cases hp : pos < j
          · have hpt : pos < t.size := by omega
            have hd := hdg.out pos hp
            have hb := hbt.out pos hp
            have hta : (t[pos]'hpt).toNat < 128 := by have := bt_at t pos hpt; omega
            have hnx : ∀ ty, (Instr.next (.pointer (some ⟨B, 0, none⟩)) true ty).run Tryz.prog wr = _ := fun ty => Lib.run_next_ascii_at wr B t pos ty HQ.out.it hpt hta
            rw [← bt_at t pos hpt, hb] at hnx
            have hnv := numV_bd s k j (fun q hq => hdg.out q hq) pos (by omega)
            have hp10 : (10 : Int) ^ pos ≤ 10000000000 := pow10_le pos (by omega)
            have HNV : Hid (numV s k (pos + 1) = 10 * numV s k pos + (bt s (k + pos) - 48)) := (show _ = _ from rfl)
            have e1 : (wr.iterAt B t (pos + 1)).cell? ⟨F, 0, none⟩ = some (.int .i64 (numV s k pos)) := (cell_of_block (Lib.iterAt_other wr B F t (pos + 1) (by omega)) 0).trans (by rw [HQ.out.hF.cell]; rfl)
            have e2 : (wr.iterAt B t (pos + 1)).frozen? ⟨F, 0, none⟩ = false := by have : Blk (wr.iterAt B t (pos + 1)) F #[.int .i64 (numV s k pos)] 3 := (Lib.iterAt_other wr B F t (pos + 1) (by omega)).trans HQ.out.hF; exact this.free 0
            generalize bt s (k + pos) = cc at *
            generalize numV s k pos = nv at *
            generalize (10 : Int) ^ pos = pw at *
            have a1 : wrap64 (10 * nv) = 10 * nv := by unfold wrap64; omega
            have a2 : IntKind.i64.wrap (10 * nv) = 10 * nv := by rw [IntKind.wrap_i64]; omega
            have a3' : IntKind.i32.wrap (cc - 48) = cc - 48 := by rw [IntKind.wrap_i32]; omega
            have a4 : IntKind.i64.wrap (cc - 48) = cc - 48 := by rw [IntKind.wrap_i64]; omega
            have a5 : wrap64 (10 * nv + (cc - 48)) = 10 * nv + (cc - 48) := by unfold wrap64; omega
            have a6 : IntKind.i64.wrap (10 * nv + (cc - 48)) = 10 * nv + (cc - 48) := by rw [IntKind.wrap_i64]; omega
            have a7 : wrap32 (cc - 48) = cc - 48 := by unfold wrap32; omega
            have a8 : wrap64 (cc - 48) = cc - 48 := by unfold wrap64; omega
            clear hta
            go_wp2
            refine ⟨⟨pos + 1, by omega, Lib.hid (HQ.out.step hlF6 hlS6 hlw6 _ (by rw [HNV.out]))⟩, ?_⟩
            have hz := (HQ.out.step hlF6 hlS6 hlw6 (10 * nv + (cc - 48)) (by rw [HNV.out])).it
            rw [hip.out, iterPos_at hz]
            omega
          · obtain rfl : pos = j := by omega
            have hnx : ∀ ty, (Instr.next (.pointer (some ⟨B, 0, none⟩)) true ty).run Tryz.prog wr = _ := fun ty => Lib.run_next_end_at wr B t pos ty HQ.out.it (by omega)
            have e1 : wr.cell? ⟨F, 0, none⟩ = some (.int .i64 (numV s k pos)) := by rw [HQ.out.hF.cell]; rfl
            have e2 := HQ.out.hF.free 0
            have hnv := numV_bd s k pos (fun q hq => hdg.out q hq) pos (Nat.le_refl _)
            have hp10 : (10 : Int) ^ pos ≤ 10000000000 := pow10_le pos (by omega)
            have a1 : wrap64 (numV s k pos) = numV s k pos := by
              generalize numV s k pos = nv at *
              generalize (10 : Int) ^ pos = pw at *
              unfold wrap64
              omega
            have hS9 : Scn wr S s (k + pos) := by have := HQ.out.hS; rw [htz] at this; exact this
            clear hnv hp10
            go_wp2
            go_end0
            first | rw [a1] | skip
            exact ⟨rfl, Blk.other hS9 (blk_ne hS9 HQ.out.hF (by decide)) _ _, blk_set HQ.out.hF _ rfl, HQ.out.hM.trans (moved_set _ _ _ _ (List.mem_cons_of_mem _ (List.mem_cons_self ..)))⟩
      · have hj10z : (10 : Int) ≤ (j : Int) := by omega
        have hj11 : 10 ≤ j := by omega
        have d1 : wr.cell? ⟨a3, 0, none⟩ = some (.pointer (some ⟨S, 0, none⟩)) := by rw [H3r.out.cell]; rfl
        have d5 : wr.cell? ⟨S, 1, none⟩ = some (.int .i64 ((k + j : Nat) : Int)) := by rw [Blk.cell HSr.out]; rfl
        have d4 : wr.cell? ⟨S, 0, none⟩ = some (.string s) := by rw [Blk.cell HSr.out]; rfl
        have hkj : k ≤ k + j := by omega
        have hkj2 : (k : Int) ≤ (k : Int) + (j : Int) := by omega
        have hks : k + j ≤ s.size := by have := (HN.out.dig (j - 1) (by omega)).1; omega
        have hks2 : (k : Int) + (j : Int) ≤ (s.size : Int) := by omega
        go_wp2_with fail
        go_region
        obtain ⟨t, ht⟩ : ∃ x, x = s.extract k (k + j) := ⟨_, rfl⟩
        rw [← ht]
        have htz : t.size = j := by rw [ht, ByteArray.size_extract]; omega
        have hbt : Hid (∀ pos, pos < j → bt t pos = bt s (k + pos)) := (show ∀ pos, pos < j → bt t pos = bt s (k + pos) from fun pos hp => by rw [ht]; exact bt_ext s k j pos hp hks)
        have kI : Kept wr (wr.drew.iter t 0) := (Kept.refl wr).drew.alloc _
        have hIt : (wr.drew.iter t 0).heap[wr.heap.size]? = some (.stringIter t 0) := World.iter_heap wr.drew t 0
        have Q0 := Lib.hid (⟨hIt, by rw [htz]; exact HSr.out.kept kI, HFr.out.kept kI, HMr.out.trans (kI.moved _)⟩ : Num2 S F s k t wr.heap.size w 0 (wr.drew.iter t 0))
        have hlF6 := HFr.out.lt
        have hlS6 := Blk.lt HSr.out
        have hlwr : w.heap.size ≤ wr.heap.size := HMr.out.size
        have hdg := Lib.hid (fun pos (hp : pos < j) => (HN.out.dig pos hp).2)
        clear hIt kI d1 d5 d4 ht
        generalize wr.heap.size = B at *
        go_wp2_with fail
        go_loopw [] (fun wr => ∃ pos : Nat, pos ≤ j ∧ Hid (Num2 S F s k t B w pos wr)) (fun wr => j - wr.iterPos B)
        case atStart => exact ⟨0, Nat.zero_le _, Q0⟩
        case round =>
          as_aux_lemma =>
          obtain ⟨pos, hle, HQ⟩ := hrel
          have hit := HQ.out.it
          have hip := Lib.hid (iterPos_at HQ.out.it)
          by_cases hp : pos < j
          · have hpt : pos < t.size := by omega
            have hd := hdg.out pos hp
            have hb := hbt.out pos hp
            have hta : (t[pos]'hpt).toNat < 128 := by have := bt_at t pos hpt; omega
            have hnx : ∀ ty, (Instr.next (.pointer (some ⟨B, 0, none⟩)) true ty).run Tryz.prog wr = _ := fun ty => Lib.run_next_ascii_at wr B t pos ty HQ.out.it hpt hta
            rw [← bt_at t pos hpt, hb] at hnx
            have hnv := numV_bd s k j (fun q hq => hdg.out q hq) pos (by omega)
            have hp10 : (10 : Int) ^ pos ≤ 10000000000 := pow10_le pos (by omega)
            have HNV : Hid (numV s k (pos + 1) = 10 * numV s k pos + (bt s (k + pos) - 48)) := (show _ = _ from rfl)
            have e1 : (wr.iterAt B t (pos + 1)).cell? ⟨F, 0, none⟩ = some (.int .i64 (numV s k pos)) := (cell_of_block (Lib.iterAt_other wr B F t (pos + 1) (by omega)) 0).trans (by rw [HQ.out.hF.cell]; rfl)
            have e2 : (wr.iterAt B t (pos + 1)).frozen? ⟨F, 0, none⟩ = false := by have : Blk (wr.iterAt B t (pos + 1)) F #[.int .i64 (numV s k pos)] 3 := (Lib.iterAt_other wr B F t (pos + 1) (by omega)).trans HQ.out.hF; exact this.free 0
            generalize bt s (k + pos) = cc at *
            generalize numV s k pos = nv at *
            generalize (10 : Int) ^ pos = pw at *
            have a1 : wrap64 (10 * nv) = 10 * nv := by unfold wrap64; omega
            have a2 : IntKind.i64.wrap (10 * nv) = 10 * nv := by rw [IntKind.wrap_i64]; omega
            have a3' : IntKind.i32.wrap (cc - 48) = cc - 48 := by rw [IntKind.wrap_i32]; omega
            have a4 : IntKind.i64.wrap (cc - 48) = cc - 48 := by rw [IntKind.wrap_i64]; omega
            have a5 : wrap64 (10 * nv + (cc - 48)) = 10 * nv + (cc - 48) := by unfold wrap64; omega
            have a6 : IntKind.i64.wrap (10 * nv + (cc - 48)) = 10 * nv + (cc - 48) := by rw [IntKind.wrap_i64]; omega
            have a7 : wrap32 (cc - 48) = cc - 48 := by unfold wrap32; omega
            have a8 : wrap64 (cc - 48) = cc - 48 := by unfold wrap64; omega
            clear hta
            go_wp2
            refine ⟨⟨pos + 1, by omega, Lib.hid (HQ.out.step hlF6 hlS6 hlwr _ (by rw [HNV.out]))⟩, ?_⟩
            have hz := (HQ.out.step hlF6 hlS6 hlwr (10 * nv + (cc - 48)) (by rw [HNV.out])).it
            rw [hip.out, iterPos_at hz]
            omega
          · obtain rfl : pos = j := by omega
            have hnx : ∀ ty, (Instr.next (.pointer (some ⟨B, 0, none⟩)) true ty).run Tryz.prog wr = _ := fun ty => Lib.run_next_end_at wr B t pos ty HQ.out.it (by omega)
            have e1 : wr.cell? ⟨F, 0, none⟩ = some (.int .i64 (numV s k pos)) := by rw [HQ.out.hF.cell]; rfl
            have e2 := HQ.out.hF.free 0
            have hnv := numV_bd s k pos (fun q hq => hdg.out q hq) pos (Nat.le_refl _)
            have hp10 : (10 : Int) ^ pos ≤ 10000000000 := pow10_le pos (by omega)
            have a1 : wrap64 (numV s k pos) = numV s k pos := by
              generalize numV s k pos = nv at *
              generalize (10 : Int) ^ pos = pw at *
              unfold wrap64
              omega
            have hS9 : Scn wr S s (k + pos) := by have := HQ.out.hS; rw [htz] at this; exact this
            clear hnv hp10
            go_wp2
            go_end0
            first | rw [a1] | skip
            exact ⟨rfl, Blk.other hS9 (blk_ne hS9 HQ.out.hF (by decide)) _ _, blk_set HQ.out.hF _ rfl, HQ.out.hM.trans (moved_set _ _ _ _ (List.mem_cons_of_mem _ (List.mem_cons_self ..)))⟩
theorem ScNumber_ok (S : Nat) (s : ByteArray) (k m : Nat) (w : World) (hS : Scn w S s k) (hn : NumAt s k m) (hs : s.size ≤ 1000000000000) :
    Calls Tryz.prog 177 #[.pointer (some ⟨S, 0, none⟩)] w fun e w' => e = .returned (.int .i64 (numV s k m)) ∧ Scn w' S s (k + m) ∧ w.grownBy w' (some S) := by
  have hmf : ∀ (fn : Fn) (first cap : Array Value) (w : World), (Instr.makeFunc fn first cap).run Tryz.prog w = .ok (.func fn first cap) w := fun _ _ _ _ => rfl
  go_enter Tryz.func177, Tryz.ntmps177
  go_wp2_with fail
  obtain ⟨F, hF⟩ : ∃ x, x = w.heap.size + 1 := ⟨_, rfl⟩
  obtain ⟨W1, hW1⟩ : ∃ x, x = ((w.alloc (.cells #[.pointer (some ⟨S, 0, none⟩)] 141)).alloc (.cells #[.int .i64 0] 3)) := ⟨_, rfl⟩
  rw [← hW1, ← hF]
  have k1 : Kept w W1 := by rw [hW1]; exact ((Kept.refl w).alloc _).alloc _
  have b3 : Blk W1 w.heap.size #[.pointer (some ⟨S, 0, none⟩)] 141 := by rw [hW1]; exact (Blk.new w _ _).alloc _
  have bF : Blk W1 F #[.int .i64 0] 3 := by
    rw [hW1, hF]
    have := Blk.new (w.alloc (.cells #[.pointer (some ⟨S, 0, none⟩)] 141)) #[.int .i64 0] 3
    simpa using this
  have hlF : w.heap.size ≤ F := by omega
  have hS1 := hS.kept k1
  have KG := Lib.hid (guard_ok S s k 224 #[.pointer (some ⟨w.heap.size, 0, none⟩), .pointer (some ⟨F, 0, none⟩)] [S, F] (fun w' => Scn w' S s (k + m) ∧ Blk w' F #[.int .i64 (numV s k m)] 3) W1 hS1
    (fun x hx => by
      rcases List.mem_cons.1 hx with e | e
      · rw [e]; exact Blk.lt hS1
      · rw [List.mem_singleton.1 e]; exact bF.lt)
    (fun args w' => by kernel_rfl)
    (fun w2 w' h q => ⟨Blk.below h.1 q (Blk.lt hS1), Blk.below h.2 q bF.lt⟩)
    (fun w1 q => (Num1_ok S s k m w.heap.size F w1 (hS1.kept q) (b3.kept q) (bF.kept q) hn hs).mono
      (fun e w2 h => ⟨h.1, ⟨h.2.1, h.2.2.1⟩, h.2.2.2⟩)))
  clear hS hS1 b3 bF hn
  go_at_call 173
  (with_reducible refine KG.out.mono ?_)
  rintro e w2 ⟨rfl, ⟨hS2, hF2⟩, hm2⟩
  have e1 : w2.cell? ⟨F, 0, none⟩ = some (.int .i64 (numV s k m)) := by rw [hF2.cell]; rfl
  have lF := hF2.lt
  have HM : Hid (w.grownBy w2 (some S)) := (show World.grownBy _ _ _ from (Moved.old (n := F) k1 (hm2.mono (fun x hx => by
    rcases List.mem_cons.1 hx with e | e
    · rw [e]; simp
    · rw [List.mem_singleton.1 e]; simp)) hlF).grown)
  have HS2 := Lib.hid hS2
  clear hS2 hF2 hm2 KG k1 hW1
  subst hF
  go_wp2
  go_ret
  exact ⟨rfl, HS2.out, HM.out⟩
end Go.Proofs.YtblaphkaklocfaaGreatDoor
/- Contract: the scanner's Identifier, where an identifier without a hyphen comes. -/
namespace Go.Proofs.YtblaphkaklocfaaGreatDoor
open Go.ChangeShapes Go.WideShapes Go.ChangeAt Go.RowKit
set_option maxHeartbeats 2000000
set_option maxRecDepth 20000

def parP (c : Int) : Bool := letP c || digP c
theorem part_says (w : World) : Says w 230 #[] parP := by
  refine ⟨fun args w' => by kernel_rfl, fun c w' h1 h2 hk => ?_⟩
  show Calls Tryz.prog 230 #[.int .u8 c] w' _
  have K1 := Lib.hid (fun w2 => (letter_says w2).2 c w2 h1 h2 (Kept.refl _))
  have K2 := Lib.hid (fun w2 => (digit_says w2).2 c w2 h1 h2 (Kept.refl _))
  have HP : Hid (parP c = (letP c || digP c)) := (show _ = _ from rfl)
  generalize letP c = b1 at *
  generalize digP c = b2 at *
  generalize parP c = b3 at *
  obtain rfl := HP.out
  cases b1 with
  | true =>
    go_enter Tryz.func230, Tryz.ntmps230
    go_wp2_with fail
    go_at_call 229
    refine (K1.out _).mono ?_
    rintro e w2 ⟨rfl, hk2⟩
    go_wp2
    go_ret
    exact ⟨rfl, (by repeat (first | with_reducible exact Kept.refl _ | with_reducible assumption | with_reducible refine Kept.drew ?_ | with_reducible refine Kept.drewN ?_ _ | with_reducible refine Kept.alloc ?_ _ | (with_reducible refine Kept.setCell ?_ (by first | exact Nat.le_refl _ | omega | (simp; done) | (simp; omega)) _) | (with_reducible refine Kept.trans ?_ (by with_reducible assumption))))⟩
  | false =>
    go_enter Tryz.func230, Tryz.ntmps230
    go_wp2_with fail
    go_at_call 229
    refine (K1.out _).mono ?_
    rintro e w2 ⟨rfl, hk2⟩
    go_wp2_with fail
    go_at_call 227
    refine (K2.out _).mono ?_
    rintro e w3 ⟨rfl, hk3⟩
    go_wp2
    go_ret
    exact ⟨by rw [Bool.false_or]; rfl, Kept.trans (by repeat (first | with_reducible exact Kept.refl _ | with_reducible assumption | with_reducible refine Kept.drew ?_ | with_reducible refine Kept.drewN ?_ _ | with_reducible refine Kept.alloc ?_ _ | (with_reducible refine Kept.setCell ?_ (by first | exact Nat.le_refl _ | omega | (simp; done) | (simp; omega)) _) | (with_reducible refine Kept.trans ?_ (by with_reducible assumption)))) hk3⟩
/-- An identifier comes: m characters, none of them a hyphen. -/
structure IdAt (s : ByteArray) (k m : Nat) : Prop where
  h1 : 1 ≤ m
  h2 : m ≤ 40
  hl : hit s k letP = true
  hd : ∀ j, 1 ≤ j → j < m → hit s (k + j) parP = true
  he : m = 40 ∨ (hit s (k + m) parP = false ∧ hit s (k + m) (fun c => decide (c = 45)) = false)
  hs : k + m ≤ s.size
theorem Id1_ok (S : Nat) (s : ByteArray) (k m a3 F : Nat) (z : Int) (w : World) (hS : Scn w S s k) (h3 : Blk w a3 #[.pointer (some ⟨S, 0, none⟩)] 141) (hF : Blk w F #[.int .i64 z] 3) (hn : IdAt s k m) (hs : s.size ≤ 1000000000000) :
    Calls Tryz.prog 228 #[.pointer (some ⟨a3, 0, none⟩), .pointer (some ⟨F, 0, none⟩)] w fun e w' => e = .returned (.tuple #[]) ∧ Scn w' S s (k + m) ∧ Blk w' F #[.int .i64 k] 3 ∧ Moved [S, F] w w' := by
  have hmf : ∀ (fn : Fn) (first cap : Array Value) (w : World), (Instr.makeFunc fn first cap).run Tryz.prog w = .ok (.func fn first cap) w := fun _ _ _ _ => rfl
  have c1 : w.cell? ⟨a3, 0, none⟩ = some (.pointer (some ⟨S, 0, none⟩)) := by rw [h3.cell]; rfl
  have c2 : w.cell? ⟨S, 1, none⟩ = some (.int .i64 k) := by rw [Blk.cell hS]; rfl
  have c3 : w.cell? ⟨F, 0, none⟩ = some (.int .i64 z) := by rw [hF.cell]; rfl
  have f3 := hF.free 0
  have hl3 := h3.lt
  have hlS := Blk.lt hS
  have hlF := hF.lt
  have hS1 : Scn (w.setCell ⟨F, 0, none⟩ (.int .i64 k)) S s k := Blk.other hS (blk_ne hS hF (by decide)) _ _
  have h31 := h3.other (blk_ne h3 hF (by decide)) 0 (.int .i64 k)
  have hF1 : Blk (w.setCell ⟨F, 0, none⟩ (.int .i64 k)) F #[.int .i64 k] 3 := blk_set hF _ rfl
  have HS := Lib.hid hS1
  have H3 := Lib.hid h31
  have HF := Lib.hid hF1
  have HM : Hid (Moved [S, F] w (w.setCell ⟨F, 0, none⟩ (.int .i64 k))) := Lib.hid (moved_set _ _ _ _ (List.mem_cons_of_mem _ (List.mem_cons_self ..)))
  have HN := Lib.hid hn
  have hm1 := hn.h1
  have hm2 := hn.h2
  clear hS h3 hF hn hS1 h31 hF1
  go_enter Tryz.func228, Tryz.ntmps228
  have c1' : (w.setCell ⟨F, 0, none⟩ (.int .i64 k)).cell? ⟨a3, 0, none⟩ = some (.pointer (some ⟨S, 0, none⟩)) := by rw [H3.out.cell]; rfl
  have KM := Lib.hid (must_ok S s k 229 #[] letP _ HS.out hs (letter_says _) HN.out.hl)
  go_wp2_with fail
  go_at_call 175
  refine KM.out.mono ?_
  rintro e w5 ⟨rfl, hS5, hg5⟩
  have HS5 := Lib.hid hS5
  have H35 := Lib.hid (Blk.grown H3.out hg5 (fun e => blk_ne H3.out HS.out (by decide) (Option.some.inj e)))
  have HF5 := Lib.hid (Blk.grown HF.out hg5 (fun e => blk_ne HF.out HS.out (by decide) (Option.some.inj e)))
  have HM5 := Lib.hid (HM.out.trans (moved_grown hg5 (List.mem_cons_self ..)))
  clear KM hS5 hg5 HS H3 HF HM c1 c2 c3 f3 c1'
  go_wp2_with fail
  go_loopw [] (fun wr => ∃ j : Nat, 1 ≤ j ∧ j ≤ m ∧ Hid (Scn wr S s (k + j)) ∧ Hid (Blk wr a3 #[.pointer (some ⟨S, 0, none⟩)] 141) ∧ Hid (Blk wr F #[.int .i64 k] 3) ∧ Hid (Moved [S, F] w wr)) (fun wr => k + m - atOf wr S)
  case atStart => exact ⟨1, Nat.le_refl _, hm1, HS5, H35, HF5, HM5⟩
  case round =>
    obtain ⟨j, hj1, hjm, HSr, H3r, HFr, HMr⟩ := hrel
    have d1 : wr.cell? ⟨a3, 0, none⟩ = some (.pointer (some ⟨S, 0, none⟩)) := by rw [H3r.out.cell]; rfl
    have d5 : wr.cell? ⟨S, 1, none⟩ = some (.int .i64 ((k + j : Nat) : Int)) := by rw [Blk.cell HSr.out]; rfl
    have d6 : wr.cell? ⟨F, 0, none⟩ = some (.int .i64 (k : Int)) := by rw [HFr.out.cell]; rfl
    have lS := Blk.lt HSr.out
    have l3 := H3r.out.lt
    have lF := HFr.out.lt
    have hw : wrap64 (((k + j : Nat) : Int) - (k : Int)) = (j : Int) := by unfold wrap64; omega
    have hw2 : IntKind.i64.wrap (((k + j : Nat) : Int) - (k : Int)) = (j : Int) := by rw [IntKind.wrap_i64]; omega
    have hw3 : IntKind.i64.wrap ((k : Int) + (j : Int) - (k : Int)) = (j : Int) := by rw [IntKind.wrap_i64]; omega
    have hw4 : wrap64 ((k : Int) + (j : Int) - (k : Int)) = (j : Int) := by unfold wrap64; omega
    by_cases hlt : j < m
    · have hj40 : (j : Int) < 40 := by omega
      have KT := Lib.hid (fun w' (q : Kept wr w') => take_yes S s (k + j) 230 #[] parP w' (HSr.out.kept q) hs (part_says _) (HN.out.hd j hj1 hlt))
      have hA := Lib.hid (Scn.at HSr.out)
      go_wp2_with fail
      go_region
      go_wp2_with fail
      go_at_call 223
      refine (KT.out _ (by (repeat (first | with_reducible assumption | with_reducible exact Kept.refl _ | with_reducible apply Kept.drew | with_reducible apply Kept.alloc | (with_reducible refine Kept.setCell ?_ (by first | exact Nat.le_refl _ | (dsimp only; omega)) _))))).mono ?_
      rintro e w6 ⟨rfl, hS6, hg6⟩
      have kr0 : Kept wr wr.drew := (Kept.refl wr).drew
      have HS6 := Lib.hid hS6
      have H36 := Lib.hid (Blk.grown (H3r.out.kept kr0) hg6 (fun e => blk_ne H3r.out HSr.out (by decide) (Option.some.inj e)))
      have HF6 := Lib.hid (Blk.grown (HFr.out.kept kr0) hg6 (fun e => blk_ne HFr.out HSr.out (by decide) (Option.some.inj e)))
      have HM6 := Lib.hid ((HMr.out.trans (kr0.moved _)).trans (moved_grown hg6 (List.mem_cons_self ..)))
      clear KT hS6 hg6
      go_wp2
      exact ⟨⟨j + 1, by omega, by omega, HS6, H36, HF6, HM6⟩, by rw [hA.out, Scn.at HS6.out]; omega⟩
    · obtain rfl : j = m := by omega
      by_cases hm40 : j = 40
      · have hj40 : (40 : Int) ≤ (j : Int) := by omega
        clear hm40
        go_wp2_with fail
        go_region
        go_wp2
        go_end0
        exact ⟨rfl, HSr.out.kept (by repeat (first | with_reducible exact Kept.refl _ | with_reducible assumption | with_reducible refine Kept.drew ?_ | with_reducible refine Kept.drewN ?_ _ | with_reducible refine Kept.alloc ?_ _ | (with_reducible refine Kept.setCell ?_ (by first | exact Nat.le_refl _ | omega | (simp; done) | (simp; omega)) _) | (with_reducible refine Kept.trans ?_ (by with_reducible assumption)))), HFr.out.kept (by repeat (first | with_reducible exact Kept.refl _ | with_reducible assumption | with_reducible refine Kept.drew ?_ | with_reducible refine Kept.drewN ?_ _ | with_reducible refine Kept.alloc ?_ _ | (with_reducible refine Kept.setCell ?_ (by first | exact Nat.le_refl _ | omega | (simp; done) | (simp; omega)) _) | (with_reducible refine Kept.trans ?_ (by with_reducible assumption)))), HMr.out.trans (Kept.moved (by repeat (first | with_reducible exact Kept.refl _ | with_reducible assumption | with_reducible refine Kept.drew ?_ | with_reducible refine Kept.drewN ?_ _ | with_reducible refine Kept.alloc ?_ _ | (with_reducible refine Kept.setCell ?_ (by first | exact Nat.le_refl _ | omega | (simp; done) | (simp; omega)) _) | (with_reducible refine Kept.trans ?_ (by with_reducible assumption)))) _)⟩
      · have hj40 : (j : Int) < 40 := by omega
        have hq := HN.out.he.resolve_left hm40
        have KT := Lib.hid (fun w' (q : Kept wr w') => take_no S s (k + j) 230 #[] parP w' (HSr.out.kept q) hs (part_says _) hq.1)
        have HQ2 := Lib.hid hq.2
        clear hq
        go_wp2_with fail
        go_region
        go_wp2_with fail
        go_at_call 223
        refine (KT.out _ (by (repeat (first | with_reducible assumption | with_reducible exact Kept.refl _ | with_reducible apply Kept.drew | with_reducible apply Kept.alloc | (with_reducible refine Kept.setCell ?_ (by first | exact Nat.le_refl _ | (dsimp only; omega)) _))))).mono ?_
        rintro e w6 ⟨rfl, hk6⟩
        have kk6 : Kept wr w6 := Kept.trans (by (repeat (first | with_reducible assumption | with_reducible exact Kept.refl _ | with_reducible apply Kept.drew | with_reducible apply Kept.alloc | (with_reducible refine Kept.setCell ?_ (by first | exact Nat.le_refl _ | (dsimp only; omega)) _)))) hk6
        have d1' := (kk6.cell _ 0 l3).trans d1
        have d5' := (kk6.cell _ 1 lS).trans d5
        have d6' := (kk6.cell _ 0 lF).trans d6
        have KI := Lib.hid (fun w' => is_ok 45 w')
        have KU := Lib.hid (fun a w' (q : Kept wr w') (hy : Says w' _ _ _) => take_no S s (k + j) 263 #[.pointer (some ⟨a, 0, none⟩)] _ w' (HSr.out.kept q) hs hy HQ2.out)
        clear KT hk6
        by_cases hm39 : j = 39
        · have hj39 : (39 : Int) ≤ (j : Int) := by omega
          have hjx : decide ((j : Int) < 39) = false := decide_eq_false (by omega)
          have hjy : ¬ (j : Int) < 39 := by omega
          clear hm39
          go_wp2_with fail
          go_region
          go_wp2
          refine bodyPost_ret (results_none rfl _ _ _) rfl ?_
          exact ⟨rfl, HSr.out.kept (Kept.trans kk6 (by repeat (first | with_reducible exact Kept.refl _ | with_reducible assumption | with_reducible refine Kept.drew ?_ | with_reducible refine Kept.drewN ?_ _ | with_reducible refine Kept.alloc ?_ _ | (with_reducible refine Kept.setCell ?_ (by first | exact Nat.le_refl _ | omega | (simp; done) | (simp; omega)) _) | (with_reducible refine Kept.trans ?_ (by with_reducible assumption))))), HFr.out.kept (Kept.trans kk6 (by repeat (first | with_reducible exact Kept.refl _ | with_reducible assumption | with_reducible refine Kept.drew ?_ | with_reducible refine Kept.drewN ?_ _ | with_reducible refine Kept.alloc ?_ _ | (with_reducible refine Kept.setCell ?_ (by first | exact Nat.le_refl _ | omega | (simp; done) | (simp; omega)) _) | (with_reducible refine Kept.trans ?_ (by with_reducible assumption))))), HMr.out.trans (Kept.moved (Kept.trans kk6 (by repeat (first | with_reducible exact Kept.refl _ | with_reducible assumption | with_reducible refine Kept.drew ?_ | with_reducible refine Kept.drewN ?_ _ | with_reducible refine Kept.alloc ?_ _ | (with_reducible refine Kept.setCell ?_ (by first | exact Nat.le_refl _ | omega | (simp; done) | (simp; omega)) _) | (with_reducible refine Kept.trans ?_ (by with_reducible assumption))))) _)⟩
        · have hj39 : (j : Int) < 39 := by omega
          go_wp2_with fail
          go_region_held3 (fun w' => Kept wr w' ∧ (∀ b o, b < wr.heap.size → w'.cell? ⟨b, o, none⟩ = wr.cell? ⟨b, o, none⟩)) (exact held_of (by (repeat (first | with_reducible assumption | with_reducible exact Kept.refl _ | with_reducible apply Kept.drew | with_reducible apply Kept.alloc | (with_reducible refine Kept.setCell ?_ (by first | exact Nat.le_refl _ | (dsimp only; omega)) _))))) (first | (go_at_call 225; (with_reducible refine (KI.out _).mono ?_); rintro e w7 ⟨a, rfl, hsy, hk7⟩; have kk7 : Kept wr w7 := Kept.trans (by (repeat (first | with_reducible assumption | with_reducible exact Kept.refl _ | with_reducible apply Kept.drew | with_reducible apply Kept.alloc | (with_reducible refine Kept.setCell ?_ (by first | exact Nat.le_refl _ | (dsimp only; omega)) _)))) hk7) | (go_at_call 223; (with_reducible refine (KU.out a _ ?_ (hsy.kept ?_)).mono ?_); (· (repeat (first | with_reducible assumption | with_reducible exact Kept.refl _ | with_reducible apply Kept.drew | with_reducible apply Kept.alloc | (with_reducible refine Kept.setCell ?_ (by first | exact Nat.le_refl _ | (dsimp only; omega)) _)))); (· (repeat (first | with_reducible assumption | with_reducible exact Kept.refl _ | with_reducible apply Kept.drew | with_reducible apply Kept.alloc | (with_reducible refine Kept.setCell ?_ (by first | exact Nat.le_refl _ | (dsimp only; omega)) _)))); rintro e w8 ⟨rfl, hk8⟩; have kk8 : Kept wr w8 := Kept.trans (by (repeat (first | with_reducible assumption | with_reducible exact Kept.refl _ | with_reducible apply Kept.drew | with_reducible apply Kept.alloc | (with_reducible refine Kept.setCell ?_ (by first | exact Nat.le_refl _ | (dsimp only; omega)) _)))) hk8))
          all_goals (
            go_wp2
            refine bodyPost_ret (results_none rfl _ _ _) rfl ?_
            exact ⟨rfl, HSr.out.kept (by (repeat (first | with_reducible assumption | with_reducible exact Kept.refl _ | with_reducible apply Kept.drew | with_reducible apply Kept.alloc | (with_reducible refine Kept.setCell ?_ (by first | exact Nat.le_refl _ | (dsimp only; omega)) _)))), HFr.out.kept (by (repeat (first | with_reducible assumption | with_reducible exact Kept.refl _ | with_reducible apply Kept.drew | with_reducible apply Kept.alloc | (with_reducible refine Kept.setCell ?_ (by first | exact Nat.le_refl _ | (dsimp only; omega)) _)))), HMr.out.trans (Kept.moved (by (repeat (first | with_reducible assumption | with_reducible exact Kept.refl _ | with_reducible apply Kept.drew | with_reducible apply Kept.alloc | (with_reducible refine Kept.setCell ?_ (by first | exact Nat.le_refl _ | (dsimp only; omega)) _)))) _)⟩)
theorem Ident_ok (S : Nat) (s : ByteArray) (k m : Nat) (w : World) (hS : Scn w S s k) (hn : IdAt s k m) (hs : s.size ≤ 1000000000000) :
    Calls Tryz.prog 179 #[.pointer (some ⟨S, 0, none⟩)] w fun e w' => e = .returned (.string (s.extract k (k + m))) ∧ Scn w' S s (k + m) ∧ w.grownBy w' (some S) := by
  have hmf : ∀ (fn : Fn) (first cap : Array Value) (w : World), (Instr.makeFunc fn first cap).run Tryz.prog w = .ok (.func fn first cap) w := fun _ _ _ _ => rfl
  go_enter Tryz.func179, Tryz.ntmps179
  go_wp2_with fail
  obtain ⟨F, hF⟩ : ∃ x, x = w.heap.size + 1 := ⟨_, rfl⟩
  obtain ⟨W1, hW1⟩ : ∃ x, x = ((w.alloc (.cells #[.pointer (some ⟨S, 0, none⟩)] 141)).alloc (.cells #[.int .i64 0] 3)) := ⟨_, rfl⟩
  rw [← hW1, ← hF]
  have k1 : Kept w W1 := by rw [hW1]; exact ((Kept.refl w).alloc _).alloc _
  have b3 : Blk W1 w.heap.size #[.pointer (some ⟨S, 0, none⟩)] 141 := by rw [hW1]; exact (Blk.new w _ _).alloc _
  have bF : Blk W1 F #[.int .i64 0] 3 := by
    rw [hW1, hF]
    have := Blk.new (w.alloc (.cells #[.pointer (some ⟨S, 0, none⟩)] 141)) #[.int .i64 0] 3
    simpa using this
  have hlF : w.heap.size ≤ F := by omega
  have hS1 := hS.kept k1
  have KG := Lib.hid (guard_ok S s k 228 #[.pointer (some ⟨w.heap.size, 0, none⟩), .pointer (some ⟨F, 0, none⟩)] [S, F] (fun w' => (Scn w' S s (k + m) ∧ Blk w' F #[.int .i64 k] 3) ∧ Blk w' w.heap.size #[.pointer (some ⟨S, 0, none⟩)] 141) W1 hS1
    (fun x hx => by
      rcases List.mem_cons.1 hx with e | e
      · rw [e]; exact Blk.lt hS1
      · rw [List.mem_singleton.1 e]; exact bF.lt)
    (fun args w' => by kernel_rfl)
    (fun w2 w' h q => ⟨⟨Blk.below h.1.1 q (Blk.lt hS1), Blk.below h.1.2 q bF.lt⟩, Blk.below h.2 q b3.lt⟩)
    (fun w1 q => (Id1_ok S s k m w.heap.size F 0 w1 (hS1.kept q) (b3.kept q) (bF.kept q) hn hs).mono
      (fun e w2 h => ⟨h.1, ⟨⟨h.2.1, h.2.2.1⟩, Moved.blk (b3.kept q) h.2.2.2 (fun hx => by
        rcases List.mem_cons.1 hx with e | e
        · exact blk_ne b3 hS1 (by decide) e
        · exact blk_ne b3 bF (by decide) (List.mem_singleton.1 e))⟩, h.2.2.2⟩)))
  have hkm := hn.hs
  clear hS hS1 b3 bF hn
  go_at_call 173
  (with_reducible refine KG.out.mono ?_)
  rintro e w2 ⟨rfl, ⟨⟨hS2, hF2⟩, h32⟩, hm2⟩
  have e1 : w2.cell? ⟨F, 0, none⟩ = some (.int .i64 k) := by rw [hF2.cell]; rfl
  have e2 : w2.cell? ⟨w.heap.size, 0, none⟩ = some (.pointer (some ⟨S, 0, none⟩)) := by rw [h32.cell]; rfl
  have e3 : w2.cell? ⟨S, 0, none⟩ = some (.string s) := by rw [Blk.cell hS2]; rfl
  have e4 : w2.cell? ⟨S, 1, none⟩ = some (.int .i64 ((k + m : Nat) : Int)) := by rw [Blk.cell hS2]; rfl
  have lF := hF2.lt
  have l3 := h32.lt
  have lS := Blk.lt hS2
  have HM : Hid (w.grownBy w2 (some S)) := (show World.grownBy _ _ _ from (Moved.old (n := F) k1 (hm2.mono (fun x hx => by
    rcases List.mem_cons.1 hx with e | e
    · rw [e]; simp
    · rw [List.mem_singleton.1 e]; simp)) hlF).grown)
  have HS2 := Lib.hid hS2
  have hkk : k ≤ k + m := by omega
  have hk3 : (k : Int) ≤ (k : Int) + (m : Int) := by omega
  have hk4 : (k : Int) + (m : Int) ≤ (s.size : Int) := by omega
  clear hS2 hF2 h32 hm2 KG k1 hW1
  subst hF
  go_wp2_with fail
  go_region
  go_wp2
  go_ret
  exact ⟨rfl, HS2.out.kept (by repeat (first | with_reducible exact Kept.refl _ | with_reducible assumption | with_reducible refine Kept.drew ?_ | with_reducible refine Kept.drewN ?_ _ | with_reducible refine Kept.alloc ?_ _ | (with_reducible refine Kept.setCell ?_ (by first | exact Nat.le_refl _ | omega | (simp; done) | (simp; omega)) _) | (with_reducible refine Kept.trans ?_ (by with_reducible assumption)))), HM.out.trans (Kept.grown (by repeat (first | with_reducible exact Kept.refl _ | with_reducible assumption | with_reducible refine Kept.drew ?_ | with_reducible refine Kept.drewN ?_ _ | with_reducible refine Kept.alloc ?_ _ | (with_reducible refine Kept.setCell ?_ (by first | exact Nat.le_refl _ | omega | (simp; done) | (simp; omega)) _) | (with_reducible refine Kept.trans ?_ (by with_reducible assumption)))) _)⟩
end Go.Proofs.YtblaphkaklocfaaGreatDoor
/- Contracts: cattext's parser: number, identifier, choice. -/
namespace Go.Proofs.YtblaphkaklocfaaGreatDoor
open Go.ChangeShapes Go.WideShapes Go.ChangeAt Go.RowKit
set_option maxHeartbeats 2000000
set_option maxRecDepth 20000

theorem grown_kept {a b c : World} {S : Nat} (h : Kept a b) (g : b.grownBy c (some S)) (hS : S < a.heap.size) : a.grownBy c (some S) := (h.grown _).trans g
/-- A word of a list of one. -/
theorem Word1w_ok (S : Nat) (s : ByteArray) (k : Nat) (x : ByteArray) (b c : Nat) (w : World) (hS : Scn w S s k) (hb : b < w.heap.size) (hbS : b ≠ S) (hcl : w.cell? ⟨b, 0, none⟩ = some (.string x)) (hc : Comes1 [x] s k 0) (hs : s.size ≤ 1000000000000) (hx : x.size ≤ 1000000) :
    Calls Tryz.prog 120 #[.pointer (some ⟨S, 0, none⟩), .slice (some ⟨b, 0, none⟩) 1 c] w fun e w' => e = .returned (.int .i64 0) ∧ Scn w' S s (k + x.size) ∧ w.grownBy w' (some S) :=
  Word_ok S s k 0 [x] b c w hS hb hbS (fun j hj => by obtain rfl : j = 0 := by simpa using hj
                                                      exact hcl) hc hs (by simp) (fun y hy => by rw [List.mem_singleton.1 hy]; exact hx)
theorem pNum_ok (S : Nat) (s : ByteArray) (k m : Nat) (w : World) (hS : Scn w S s k) (hc : Comes1 [(⟨#[32]⟩ : ByteArray)] s k 0) (hn : NumAt s (k + 1) m) (hs : s.size ≤ 1000000000000) :
    Calls Tryz.prog 121 #[(.agg #[.pointer (some ⟨S, 0, none⟩)])] w fun e w' => e = .returned (.int .i64 (numV s (k + 1) m)) ∧ Scn w' S s (k + 1 + m) ∧ w.grownBy w' (some S) := by
  have lS := Blk.lt hS
  have HS := Lib.hid hS
  clear hS
  go_enter Tryz.func121, Tryz.ntmps121
  go_wp2_with fail
  have KW := Lib.hid (fun W b (q : Kept w W) hb hbS hcl => Word1w_ok S s k ⟨#[32]⟩ b 1 W (HS.out.kept q) hb hbS hcl hc hs (by decide))
  have bp := (Blk.new w #[.pointer (some ⟨S, 0, none⟩)] 144).alloc (.cells #[.string ⟨#[32]⟩] 9)
  go_at_call 120
  refine (KW.out _ _ (by (repeat (first | with_reducible assumption | with_reducible exact Kept.refl _ | with_reducible apply Kept.drew | with_reducible apply Kept.alloc | (with_reducible refine Kept.setCell ?_ (by first | exact Nat.le_refl _ | (dsimp only; omega)) _)))) (by simp) (by omega) (by simp)).mono ?_
  rintro e w2 ⟨rfl, hS2, hg2⟩
  have bp2 := bp.grown hg2 (fun e => by have := Option.some.inj e; omega)
  have e1 : w2.cell? ⟨w.heap.size, 0, none⟩ = some (.pointer (some ⟨S, 0, none⟩)) := by rw [bp2.cell]; rfl
  have l2 := bp2.lt
  have HG := Lib.hid (grown_kept (show Kept w _ from ((Kept.refl w).alloc _).alloc _) hg2 lS)
  have HS2 : Hid (Scn w2 S s (k + 1)) := Lib.hid hS2
  have KN := Lib.hid (fun W (q : Kept w2 W) => ScNumber_ok S s (k + 1) m W (HS2.out.kept q) hn hs)
  clear hS2 hg2 KW bp bp2
  go_wp2_with fail
  go_at_call 177
  refine (KN.out _ (by (repeat (first | with_reducible assumption | with_reducible exact Kept.refl _ | with_reducible apply Kept.drew | with_reducible apply Kept.alloc | (with_reducible refine Kept.setCell ?_ (by first | exact Nat.le_refl _ | (dsimp only; omega)) _))))).mono ?_
  rintro e w3 ⟨rfl, hS3, hg3⟩
  have HS3 := Lib.hid hS3
  have HG3 := Lib.hid (HG.out.trans hg3)
  clear hS3 hg3 KN
  go_wp2
  go_ret
  exact ⟨rfl, HS3.out, HG3.out⟩
theorem pIdent_ok (S : Nat) (s : ByteArray) (k m : Nat) (w : World) (hS : Scn w S s k) (hc : Comes1 [(⟨#[32]⟩ : ByteArray)] s k 0) (hn : IdAt s (k + 1) m) (hs : s.size ≤ 1000000000000) :
    Calls Tryz.prog 123 #[(.agg #[.pointer (some ⟨S, 0, none⟩)])] w fun e w' => e = .returned (.string (s.extract (k + 1) (k + 1 + m))) ∧ Scn w' S s (k + 1 + m) ∧ w.grownBy w' (some S) := by
  have lS := Blk.lt hS
  have HS := Lib.hid hS
  clear hS
  go_enter Tryz.func123, Tryz.ntmps123
  go_wp2_with fail
  have KW := Lib.hid (fun W b (q : Kept w W) hb hbS hcl => Word1w_ok S s k ⟨#[32]⟩ b 1 W (HS.out.kept q) hb hbS hcl hc hs (by decide))
  have bp := (Blk.new w #[.pointer (some ⟨S, 0, none⟩)] 144).alloc (.cells #[.string ⟨#[32]⟩] 9)
  go_at_call 120
  refine (KW.out _ _ (by (repeat (first | with_reducible assumption | with_reducible exact Kept.refl _ | with_reducible apply Kept.drew | with_reducible apply Kept.alloc | (with_reducible refine Kept.setCell ?_ (by first | exact Nat.le_refl _ | (dsimp only; omega)) _)))) (by simp) (by omega) (by simp)).mono ?_
  rintro e w2 ⟨rfl, hS2, hg2⟩
  have bp2 := bp.grown hg2 (fun e => by have := Option.some.inj e; omega)
  have e1 : w2.cell? ⟨w.heap.size, 0, none⟩ = some (.pointer (some ⟨S, 0, none⟩)) := by rw [bp2.cell]; rfl
  have l2 := bp2.lt
  have HG := Lib.hid (grown_kept (show Kept w _ from ((Kept.refl w).alloc _).alloc _) hg2 lS)
  have HS2 : Hid (Scn w2 S s (k + 1)) := Lib.hid hS2
  have KN := Lib.hid (fun W (q : Kept w2 W) => Ident_ok S s (k + 1) m W (HS2.out.kept q) hn hs)
  clear hS2 hg2 KW bp bp2
  go_wp2_with fail
  go_at_call 179
  refine (KN.out _ (by (repeat (first | with_reducible assumption | with_reducible exact Kept.refl _ | with_reducible apply Kept.drew | with_reducible apply Kept.alloc | (with_reducible refine Kept.setCell ?_ (by first | exact Nat.le_refl _ | (dsimp only; omega)) _))))).mono ?_
  rintro e w3 ⟨rfl, hS3, hg3⟩
  have HS3 := Lib.hid hS3
  have HG3 := Lib.hid (HG.out.trans hg3)
  clear hS3 hg3 KN
  go_wp2
  go_ret
  exact ⟨rfl, HS3.out, HG3.out⟩
theorem pChoice_ok (S : Nat) (s : ByteArray) (k i : Nat) (l : List ByteArray) (b c : Nat) (w : World) (hS : Scn w S s k) (hc : Comes1 [(⟨#[32]⟩ : ByteArray)] s k 0) (hb : b < w.heap.size) (hbS : b ≠ S) (hcl : ∀ j, j < l.length → w.cell? ⟨b, j, none⟩ = some (.string l[j]!))
    (hc2 : Comes1 l s (k + 1) i) (hs : s.size ≤ 1000000000000) (hl : l.length ≤ 1000000) (hlw : ∀ x ∈ l, x.size ≤ 1000000) :
    Calls Tryz.prog 124 #[(.agg #[.pointer (some ⟨S, 0, none⟩)]), .slice (some ⟨b, 0, none⟩) l.length c] w fun e w' => e = .returned (.int .i64 i) ∧ Scn w' S s (k + 1 + l[i]!.size) ∧ w.grownBy w' (some S) := by
  have lS := Blk.lt hS
  have HS := Lib.hid hS
  have HC := Lib.hid hcl
  have HC2 := Lib.hid hc2
  clear hS hcl hc2
  go_enter Tryz.func124, Tryz.ntmps124
  go_wp2_with fail
  have KW := Lib.hid (fun W b (q : Kept w W) hb hbS hcl => Word1w_ok S s k ⟨#[32]⟩ b 1 W (HS.out.kept q) hb hbS hcl hc hs (by decide))
  have bp := (Blk.new w #[.pointer (some ⟨S, 0, none⟩)] 144).alloc (.cells #[.string ⟨#[32]⟩] 9)
  go_at_call 120
  refine (KW.out _ _ (by (repeat (first | with_reducible assumption | with_reducible exact Kept.refl _ | with_reducible apply Kept.drew | with_reducible apply Kept.alloc | (with_reducible refine Kept.setCell ?_ (by first | exact Nat.le_refl _ | (dsimp only; omega)) _)))) (by simp) (by omega) (by simp)).mono ?_
  rintro e w2 ⟨rfl, hS2, hg2⟩
  have bp2 := bp.grown hg2 (fun e => by have := Option.some.inj e; omega)
  have e1 : w2.cell? ⟨w.heap.size, 0, none⟩ = some (.pointer (some ⟨S, 0, none⟩)) := by rw [bp2.cell]; rfl
  have l2 := bp2.lt
  have HG := Lib.hid (grown_kept (show Kept w _ from ((Kept.refl w).alloc _).alloc _) hg2 lS)
  have HS2 : Hid (Scn w2 S s (k + 1)) := Lib.hid hS2
  have KN := Lib.hid (fun W (q : Kept w2 W) => Word_ok S s (k + 1) i l b c W (HS2.out.kept q) (by have := HG.out.size; have := q.size; omega) hbS (fun j hj => (q.cell b j (by have := HG.out.size; omega)).trans ((cell_of_block (HG.out.block b hb (fun e => hbS (Option.some.inj e))) j).trans (HC.out j hj))) HC2.out hs hl hlw)
  clear hS2 hg2 KW bp bp2
  go_wp2_with fail
  go_at_call 120
  refine (KN.out _ (by (repeat (first | with_reducible assumption | with_reducible exact Kept.refl _ | with_reducible apply Kept.drew | with_reducible apply Kept.alloc | (with_reducible refine Kept.setCell ?_ (by first | exact Nat.le_refl _ | (dsimp only; omega)) _))))).mono ?_
  rintro e w3 ⟨rfl, hS3, hg3⟩
  have HS3 := Lib.hid hS3
  have HG3 := Lib.hid (HG.out.trans hg3)
  clear hS3 hg3 KN
  go_wp2
  go_ret
  exact ⟨rfl, HS3.out, HG3.out⟩
end Go.Proofs.YtblaphkaklocfaaGreatDoor
/- Contract: cattext's parser: the anchor of a fixed date. -/
namespace Go.Proofs.YtblaphkaklocfaaGreatDoor
open Go.ChangeShapes Go.WideShapes Go.ChangeAt Go.RowKit
set_option maxHeartbeats 2000000
set_option maxRecDepth 20000

theorem Moved.refl (B : List Nat) (w : World) : Moved B w w := (Kept.refl w).moved B
theorem Moved.drew {B : List Nat} {a b : World} (h : Moved B a b) : Moved B a b.drew := h.trans ((Kept.refl b).drew.moved B)
theorem Moved.setC {B : List Nat} {a b : World} (h : Moved B a b) {n : Nat} (hn : n ∈ B) (o : Nat) (u : Value) : Moved B a (b.setCell ⟨n, o, none⟩ u) := h.trans (moved_set _ _ _ _ hn)
theorem cell_set6 {w : World} {b n : Nat} {u : Value} (h : w.cell? ⟨b, 0, none⟩ = some u) (hne : b ≠ n) (x0 x1 x2 x3 x4 x5 : Value) : ((((((w.setCell ⟨n, 0, none⟩ x0).setCell ⟨n, 1, none⟩ x1).setCell ⟨n, 2, none⟩ x2).setCell ⟨n, 3, none⟩ x3).setCell ⟨n, 4, none⟩ x4).setCell ⟨n, 5, none⟩ x5).cell? ⟨b, 0, none⟩ = some u := by
  have : ∀ (w : World) (o : Nat) (x : Value), (w.setCell ⟨n, o, none⟩ x).cell? ⟨b, 0, none⟩ = w.cell? ⟨b, 0, none⟩ := fun w o x => cell_of_block (Below.heap_setCell w _ _ b hne) 0
  rw [this, this, this, this, this, this]
  exact h
theorem cell_drew (w : World) (a : Addr) : w.drew.cell? a = w.cell? a := rfl
theorem cell_set6d {w : World} {b n : Nat} {u : Value} (h : w.cell? ⟨b, 0, none⟩ = some u) (hne : b ≠ n) (x0 x1 x2 x3 x4 x5 : Value) : ((((((w.setCell ⟨n, 0, none⟩ x0).setCell ⟨n, 1, none⟩ x1).setCell ⟨n, 2, none⟩ x2).setCell ⟨n, 3, none⟩ x3).setCell ⟨n, 4, none⟩ x4).setCell ⟨n, 5, none⟩ x5).drew.cell? ⟨b, 0, none⟩ = some u := (cell_drew _ _).trans (cell_set6 h hne x0 x1 x2 x3 x4 x5)
theorem grown_new {a b : World} {S : Nat} (g : a.grownBy b (some S)) {n : Nat} (hn : a.heap.size ≤ n) (o : Nat) (u : Value) : a.grownBy (b.setCell ⟨n, o, none⟩ u) (some S) :=
  ⟨g.os, g.tape, g.output, by simpa using g.size, fun k hk hne => (Below.heap_setCell b _ u k (show k ≠ n by omega)).trans (g.block k hk hne)⟩
theorem fill6 {b : World} {n : Nat} {t : TypeId} {y0 y1 y2 y3 y4 y5 : Value} (h : Blk b n #[y0, y1, y2, y3, y4, y5] t) (x0 x1 x2 x3 x4 x5 : Value) (W : World) (hW : W = ((((((b.setCell ⟨n, 0, none⟩ x0).setCell ⟨n, 1, none⟩ x1).setCell ⟨n, 2, none⟩ x2).setCell ⟨n, 3, none⟩ x3).setCell ⟨n, 4, none⟩ x4).setCell ⟨n, 5, none⟩ x5)) :
    Blk W n #[x0, x1, x2, x3, x4, x5] t ∧ (∀ m cs t', Blk b m cs t' → m ≠ n → Blk W m cs t') ∧ (∀ (a : World) S, a.grownBy b (some S) → a.heap.size ≤ n → a.grownBy W (some S)) := by
  subst hW
  have z0 : Blk (b.setCell ⟨n, 0, none⟩ x0) n #[x0, y1, y2, y3, y4, y5] t := blk_set h _ rfl
  have z1 : Blk ((b.setCell ⟨n, 0, none⟩ x0).setCell ⟨n, 1, none⟩ x1) n #[x0, x1, y2, y3, y4, y5] t := blk_set z0 _ rfl
  have z2 : Blk (((b.setCell ⟨n, 0, none⟩ x0).setCell ⟨n, 1, none⟩ x1).setCell ⟨n, 2, none⟩ x2) n #[x0, x1, x2, y3, y4, y5] t := blk_set z1 _ rfl
  have z3 : Blk ((((b.setCell ⟨n, 0, none⟩ x0).setCell ⟨n, 1, none⟩ x1).setCell ⟨n, 2, none⟩ x2).setCell ⟨n, 3, none⟩ x3) n #[x0, x1, x2, x3, y4, y5] t := blk_set z2 _ rfl
  have z4 : Blk (((((b.setCell ⟨n, 0, none⟩ x0).setCell ⟨n, 1, none⟩ x1).setCell ⟨n, 2, none⟩ x2).setCell ⟨n, 3, none⟩ x3).setCell ⟨n, 4, none⟩ x4) n #[x0, x1, x2, x3, x4, y5] t := blk_set z3 _ rfl
  refine ⟨blk_set z4 _ rfl, fun m cs t' hm hne => ?_, fun a S g hn => ?_⟩
  · exact (((((hm.other hne 0 x0).other hne 1 x1).other hne 2 x2).other hne 3 x3).other hne 4 x4).other hne 5 x5
  · exact grown_new (grown_new (grown_new (grown_new (grown_new (grown_new g hn 0 x0) hn 1 x1) hn 2 x2) hn 3 x3) hn 4 x4) hn 5 x5
theorem pAnchor_ok (S : Nat) (s : ByteArray) (k m1 m2 : Nat) (w : World) (hS : Scn w S s k) (h1 : Comes1 [(⟨#[32]⟩ : ByteArray)] s k 0) (h2 : Comes1 [(⟨#[102, 105, 120, 101, 100]⟩ : ByteArray), ⟨#[101, 97, 115, 116, 101, 114]⟩, ⟨#[110, 116, 104]⟩] s (k + 1) 0) (h3 : Comes1 [(⟨#[32]⟩ : ByteArray)] s (k + 1 + 5) 0) (h4 : NumAt s (k + 1 + 5 + 1) m1) (h5 : Comes1 [(⟨#[32]⟩ : ByteArray)] s (k + 1 + 5 + 1 + m1) 0) (h6 : NumAt s (k + 1 + 5 + 1 + m1 + 1) m2) (h7 : Comes1 [(⟨#[10]⟩ : ByteArray)] s (k + 1 + 5 + 1 + m1 + 1 + m2) 0) (hs : s.size ≤ 1000000000000) :
    Calls Tryz.prog 125 #[(.agg #[.pointer (some ⟨S, 0, none⟩)])] w fun e w' => e = .returned (.agg #[.int .i64 1, .int .i64 (numV s (k + 1 + 5 + 1) m1), .int .i64 (numV s (k + 1 + 5 + 1 + m1 + 1) m2), .int .i64 0, .int .i64 0, .int .i64 0]) ∧ Scn w' S s (k + 1 + 5 + 1 + m1 + 1 + m2 + 1) ∧ w.grownBy w' (some S) := by
  have lS := Blk.lt hS
  have HS := Lib.hid hS
  clear hS
  go_enter Tryz.func125, Tryz.ntmps125
  go_wp2_with fail
  obtain ⟨W1, hW1⟩ : ∃ x, x = ((((w.alloc (.cells #[.pointer (some ⟨S, 0, none⟩)] 144)).alloc (.cells #[.int .i64 0, .int .i64 0, .int .i64 0, .int .i64 0, .int .i64 0, .int .i64 0] 64)).alloc (.cells #[.int .i64 0, .int .i64 0, .int .i64 0, .int .i64 0, .int .i64 0, .int .i64 0] 64)).alloc (.cells #[.string ⟨#[102, 105, 120, 101, 100]⟩, .string ⟨#[101, 97, 115, 116, 101, 114]⟩, .string ⟨#[110, 116, 104]⟩] 9)) := ⟨_, rfl⟩
  rw [← hW1]
  have k1 : Kept w W1 := by rw [hW1]; exact ((((Kept.refl w).alloc _).alloc _).alloc _).alloc _
  have b0 : Blk W1 w.heap.size #[.pointer (some ⟨S, 0, none⟩)] 144 := by rw [hW1]; exact (((Blk.new w _ _).alloc _).alloc _).alloc _
  have b1 : Blk W1 (w.heap.size + 1) #[.int .i64 0, .int .i64 0, .int .i64 0, .int .i64 0, .int .i64 0, .int .i64 0] 64 := by
    rw [hW1]
    have := ((Blk.new (w.alloc (.cells #[.pointer (some ⟨S, 0, none⟩)] 144)) #[.int .i64 0, .int .i64 0, .int .i64 0, .int .i64 0, .int .i64 0, .int .i64 0] 64).alloc (.cells #[.int .i64 0, .int .i64 0, .int .i64 0, .int .i64 0, .int .i64 0, .int .i64 0] 64)).alloc (.cells #[.string ⟨#[102, 105, 120, 101, 100]⟩, .string ⟨#[101, 97, 115, 116, 101, 114]⟩, .string ⟨#[110, 116, 104]⟩] 9)
    simpa using this
  have b2 : Blk W1 (w.heap.size + 1 + 1) #[.int .i64 0, .int .i64 0, .int .i64 0, .int .i64 0, .int .i64 0, .int .i64 0] 64 := by
    rw [hW1]
    have := (Blk.new ((w.alloc (.cells #[.pointer (some ⟨S, 0, none⟩)] 144)).alloc (.cells #[.int .i64 0, .int .i64 0, .int .i64 0, .int .i64 0, .int .i64 0, .int .i64 0] 64)) #[.int .i64 0, .int .i64 0, .int .i64 0, .int .i64 0, .int .i64 0, .int .i64 0] 64).alloc (.cells #[.string ⟨#[102, 105, 120, 101, 100]⟩, .string ⟨#[101, 97, 115, 116, 101, 114]⟩, .string ⟨#[110, 116, 104]⟩] 9)
    simpa using this
  have b3 : Blk W1 (w.heap.size + 1 + 1 + 1) #[.string ⟨#[102, 105, 120, 101, 100]⟩, .string ⟨#[101, 97, 115, 116, 101, 114]⟩, .string ⟨#[110, 116, 104]⟩] 9 := by
    rw [hW1]
    have := Blk.new (((w.alloc (.cells #[.pointer (some ⟨S, 0, none⟩)] 144)).alloc (.cells #[.int .i64 0, .int .i64 0, .int .i64 0, .int .i64 0, .int .i64 0, .int .i64 0] 64)).alloc (.cells #[.int .i64 0, .int .i64 0, .int .i64 0, .int .i64 0, .int .i64 0, .int .i64 0] 64)) #[.string ⟨#[102, 105, 120, 101, 100]⟩, .string ⟨#[101, 97, 115, 116, 101, 114]⟩, .string ⟨#[110, 116, 104]⟩] 9
    simpa using this
  have KC := Lib.hid (pChoice_ok S s k 0 [(⟨#[102, 105, 120, 101, 100]⟩ : ByteArray), ⟨#[101, 97, 115, 116, 101, 114]⟩, ⟨#[110, 116, 104]⟩] (w.heap.size + 1 + 1 + 1) 3 W1 (HS.out.kept k1) h1 b3.lt (by omega) (fun j hj => by
    rw [b3.cell]
    match j, hj with
    | 0, _ => rfl
    | 1, _ => rfl
    | 2, _ => rfl) h2 hs (by decide) (by decide))
  have HK1 := Lib.hid k1
  have B0 := Lib.hid b0
  have B1 := Lib.hid b1
  have B2 := Lib.hid b2
  clear hW1 b3 k1 b0 b1 b2
  go_at_call 124
  refine KC.out.mono ?_
  rintro e w2 ⟨rfl, hS2, hg2⟩
  have hne : ∀ {b : Nat}, w.heap.size ≤ b → some b ≠ some S := fun hb e => by have := Option.some.inj e; omega
  have HS2 : Hid (Scn w2 S s (k + 1 + 5)) := Lib.hid hS2
  have B02 := Lib.hid (B0.out.grown hg2 (hne (by omega)))
  have B12 := Lib.hid (B1.out.grown hg2 (hne (by omega)))
  have B22 := Lib.hid (B2.out.grown hg2 (hne (by omega)))
  have HG2 := Lib.hid (grown_kept HK1.out hg2 lS)
  have e0 : w2.cell? ⟨w.heap.size, 0, none⟩ = some (.pointer (some ⟨S, 0, none⟩)) := by rw [B02.out.cell]; rfl
  have l0 := B02.out.lt
  have l2 := B22.out.lt
  clear KC B0 B1 B2 HK1 hS2 hg2
  have KN := Lib.hid (fun W (q : Kept w2 W) => pNum_ok S s (k + 1 + 5) m1 W (HS2.out.kept q) h3 h4 hs)
  have HNE : Hid (∀ b, w.heap.size ≤ b → some b ≠ some S) := Lib.hid (fun b hb => hne hb)
  have f2 : ∀ o, w2.frozen? ⟨w.heap.size + 1 + 1, o, none⟩ = false := fun o => B22.out.free o
  have e0d : w2.drew.cell? ⟨w.heap.size, 0, none⟩ = some (.pointer (some ⟨S, 0, none⟩)) := e0
  clear hne
  go_wp2_with fail
  go_region_held3 (fun w' => Moved [S, w.heap.size + 1 + 1] w2 w' ∧ w'.cell? ⟨w.heap.size, 0, none⟩ = some (.pointer (some ⟨S, 0, none⟩)))
    ((refine ⟨?_, ?_⟩; (· (repeat (first | with_reducible assumption | with_reducible exact Moved.refl _ _ | with_reducible apply Moved.drew | with_reducible refine Moved.setC ?_ (by simp) _ _))); (· (first | with_reducible exact e0 | with_reducible exact e0d | with_reducible exact e3 | with_reducible exact e4 | with_reducible exact e5 _ _ _ _ _ _ | with_reducible exact e5d _ _ _ _ _ _))))
    (first
      | (go_at_call 121; (with_reducible refine (KN.out _ ?_).mono ?_); (· (repeat (first | with_reducible assumption | with_reducible exact Kept.refl _ | with_reducible apply Kept.drew | with_reducible apply Kept.alloc | (with_reducible refine Kept.setCell ?_ (by first | exact Nat.le_refl _ | (dsimp only; omega)) _)))); rintro e w3 ⟨rfl, hS3, hg3⟩; have HS3 := Lib.hid hS3; have B03 := Lib.hid ((B02.out.kept (show Kept w2 _ from by (repeat (first | with_reducible assumption | with_reducible exact Kept.refl _ | with_reducible apply Kept.drew | with_reducible apply Kept.alloc | (with_reducible refine Kept.setCell ?_ (by first | exact Nat.le_refl _ | (dsimp only; omega)) _))))).grown hg3 (HNE.out _ (by omega))); have B13 := Lib.hid ((B12.out.kept (show Kept w2 _ from by (repeat (first | with_reducible assumption | with_reducible exact Kept.refl _ | with_reducible apply Kept.drew | with_reducible apply Kept.alloc | (with_reducible refine Kept.setCell ?_ (by first | exact Nat.le_refl _ | (dsimp only; omega)) _))))).grown hg3 (HNE.out _ (by omega))); have B23 := Lib.hid ((B22.out.kept (show Kept w2 _ from by (repeat (first | with_reducible assumption | with_reducible exact Kept.refl _ | with_reducible apply Kept.drew | with_reducible apply Kept.alloc | (with_reducible refine Kept.setCell ?_ (by first | exact Nat.le_refl _ | (dsimp only; omega)) _))))).grown hg3 (HNE.out _ (by omega))); have HG3 := Lib.hid ((HG2.out.trans (Kept.grown (show Kept w2 _ from by (repeat (first | with_reducible assumption | with_reducible exact Kept.refl _ | with_reducible apply Kept.drew | with_reducible apply Kept.alloc | (with_reducible refine Kept.setCell ?_ (by first | exact Nat.le_refl _ | (dsimp only; omega)) _)))) _)).trans hg3); have e3 : w3.cell? ⟨w.heap.size, 0, none⟩ = some (.pointer (some ⟨S, 0, none⟩)) := ((B03.out.cell _).trans rfl); have M3 : Moved [S, w.heap.size + 1 + 1] w2 w3 := (Kept.moved (show Kept w2 _ from by (repeat (first | with_reducible assumption | with_reducible exact Kept.refl _ | with_reducible apply Kept.drew | with_reducible apply Kept.alloc | (with_reducible refine Kept.setCell ?_ (by first | exact Nat.le_refl _ | (dsimp only; omega)) _)))) _).trans (moved_grown hg3 (List.mem_cons_self ..)); have KM := Lib.hid (fun W (q : Kept w3 W) => pNum_ok S s (k + 1 + 5 + 1 + m1) m2 W (HS3.out.kept q) h5 h6 hs))
      | (go_at_call 121; (with_reducible refine (KM.out _ ?_).mono ?_); (· (repeat (first | with_reducible assumption | with_reducible exact Kept.refl _ | with_reducible apply Kept.drew | with_reducible apply Kept.alloc | (with_reducible refine Kept.setCell ?_ (by first | exact Nat.le_refl _ | (dsimp only; omega)) _)))); rintro e w4 ⟨rfl, hS4, hg4⟩; have HS4 := Lib.hid hS4; have B04 := Lib.hid ((B03.out.kept (show Kept w3 _ from by (repeat (first | with_reducible assumption | with_reducible exact Kept.refl _ | with_reducible apply Kept.drew | with_reducible apply Kept.alloc | (with_reducible refine Kept.setCell ?_ (by first | exact Nat.le_refl _ | (dsimp only; omega)) _))))).grown hg4 (HNE.out _ (by omega))); have B14 := Lib.hid ((B13.out.kept (show Kept w3 _ from by (repeat (first | with_reducible assumption | with_reducible exact Kept.refl _ | with_reducible apply Kept.drew | with_reducible apply Kept.alloc | (with_reducible refine Kept.setCell ?_ (by first | exact Nat.le_refl _ | (dsimp only; omega)) _))))).grown hg4 (HNE.out _ (by omega))); have B24 := Lib.hid ((B23.out.kept (show Kept w3 _ from by (repeat (first | with_reducible assumption | with_reducible exact Kept.refl _ | with_reducible apply Kept.drew | with_reducible apply Kept.alloc | (with_reducible refine Kept.setCell ?_ (by first | exact Nat.le_refl _ | (dsimp only; omega)) _))))).grown hg4 (HNE.out _ (by omega))); have HG4 := Lib.hid ((HG3.out.trans (Kept.grown (show Kept w3 _ from by (repeat (first | with_reducible assumption | with_reducible exact Kept.refl _ | with_reducible apply Kept.drew | with_reducible apply Kept.alloc | (with_reducible refine Kept.setCell ?_ (by first | exact Nat.le_refl _ | (dsimp only; omega)) _)))) _)).trans hg4); have e4 : w4.cell? ⟨w.heap.size, 0, none⟩ = some (.pointer (some ⟨S, 0, none⟩)) := ((B04.out.cell _).trans rfl); have M4 : Moved [S, w.heap.size + 1 + 1] w2 w4 := (M3.trans (Kept.moved (show Kept w3 _ from by (repeat (first | with_reducible assumption | with_reducible exact Kept.refl _ | with_reducible apply Kept.drew | with_reducible apply Kept.alloc | (with_reducible refine Kept.setCell ?_ (by first | exact Nat.le_refl _ | (dsimp only; omega)) _)))) _)).trans (moved_grown hg4 (List.mem_cons_self ..)); have e5 := cell_set6 e4 (show w.heap.size ≠ w.heap.size + 1 + 1 by omega); have e5d := cell_set6d e4 (show w.heap.size ≠ w.heap.size + 1 + 1 by omega); have t0 : w4.cell? ⟨w.heap.size + 1 + 1, 0, none⟩ = some (.int .i64 0) := ((B24.out.cell _).trans rfl); have t1 : w4.cell? ⟨w.heap.size + 1 + 1, 1, none⟩ = some (.int .i64 0) := ((B24.out.cell _).trans rfl); have t2 : w4.cell? ⟨w.heap.size + 1 + 1, 2, none⟩ = some (.int .i64 0) := ((B24.out.cell _).trans rfl); have t3 : w4.cell? ⟨w.heap.size + 1 + 1, 3, none⟩ = some (.int .i64 0) := ((B24.out.cell _).trans rfl); have t4 : w4.cell? ⟨w.heap.size + 1 + 1, 4, none⟩ = some (.int .i64 0) := ((B24.out.cell _).trans rfl); have t5 : w4.cell? ⟨w.heap.size + 1 + 1, 5, none⟩ = some (.int .i64 0) := ((B24.out.cell _).trans rfl); have u0 := B24.out.free 0; have u1 := B24.out.free 1; have u2 := B24.out.free 2; have u3 := B24.out.free 3; have u4 := B24.out.free 4; have u5 := B24.out.free 5))
  generalize hv1 : numV s (k + 1 + 5 + 1) m1 = v1 at *
  generalize hv2 : numV s (k + 1 + 5 + 1 + m1 + 1) m2 = v2 at *
  obtain ⟨W5, hW5⟩ : ∃ x, x = ((((((w4.setCell ⟨w.heap.size + 1 + 1, 0, none⟩ (.int .i64 1)).setCell ⟨w.heap.size + 1 + 1, 1, none⟩ (.int .i64 v1)).setCell ⟨w.heap.size + 1 + 1, 2, none⟩ (.int .i64 v2)).setCell ⟨w.heap.size + 1 + 1, 3, none⟩ (.int .i64 0)).setCell ⟨w.heap.size + 1 + 1, 4, none⟩ (.int .i64 0)).setCell ⟨w.heap.size + 1 + 1, 5, none⟩ (.int .i64 0)) := ⟨_, rfl⟩
  rw [← hW5]
  obtain ⟨x1, x2, x3⟩ := fill6 B24.out (.int .i64 1) (.int .i64 v1) (.int .i64 v2) (.int .i64 0) (.int .i64 0) (.int .i64 0) W5 hW5
  have HS5 : Hid (Scn W5 S s (k + 1 + 5 + 1 + m1 + 1 + m2)) := Lib.hid (x2 _ _ _ HS4.out (by omega))
  have B05 := Lib.hid (x2 _ _ _ B04.out (by omega))
  have B15 := Lib.hid (x2 _ _ _ B14.out (by omega))
  have B25 := Lib.hid x1
  have HG5 := Lib.hid (x3 _ _ HG4.out (by omega))
  have e9 : W5.cell? ⟨w.heap.size, 0, none⟩ = some (.pointer (some ⟨S, 0, none⟩)) := (B05.out.cell _).trans rfl
  have l9 := B05.out.lt
  clear hW5 x1 x2 x3 hS3 hg3 hS4 hg4 HS3 HS4 B03 B13 B23 B04 B14 B24 HG3 HG4 e3 e4 e5 e5d M3 M4 t0 t1 t2 t3 t4 t5 u0 u1 u2 u3 u4 u5 KN KM e0 e0d f2 l0 l2 HG2 B02 B12 B22 HS2
  have KW := Lib.hid (fun W b (q : Kept W5 W) hb hbS hcl => Word1w_ok S s (k + 1 + 5 + 1 + m1 + 1 + m2) ⟨#[10]⟩ b 1 W (HS5.out.kept q) hb hbS hcl h7 hs (by decide))
  go_wp2_with fail
  go_at_call 120
  refine (KW.out _ _ (by (repeat (first | with_reducible assumption | with_reducible exact Kept.refl _ | with_reducible apply Kept.drew | with_reducible apply Kept.alloc | (with_reducible refine Kept.setCell ?_ (by first | exact Nat.le_refl _ | (dsimp only; omega)) _)))) (by simp) (by have := Blk.lt HS5.out; omega) (by simp)).mono ?_
  rintro e w6 ⟨rfl, hS6, hg6⟩
  have kA : Kept W5 (W5.alloc (.cells #[.string ⟨#[10]⟩] 9)) := (Kept.refl W5).alloc _
  have HS6 : Hid (Scn w6 S s (k + 1 + 5 + 1 + m1 + 1 + m2 + 1)) := Lib.hid hS6
  have B16 := Lib.hid ((B15.out.kept kA).grown hg6 (HNE.out _ (by omega)))
  have B26 := Lib.hid ((B25.out.kept kA).grown hg6 (HNE.out _ (by omega)))
  have HG6 := Lib.hid ((HG5.out.trans (kA.grown _)).trans hg6)
  have t0 : w6.cell? ⟨w.heap.size + 1 + 1, 0, none⟩ = some (.int .i64 1) := (B26.out.cell _).trans rfl
  have t1 : w6.cell? ⟨w.heap.size + 1 + 1, 1, none⟩ = some (.int .i64 v1) := (B26.out.cell _).trans rfl
  have t2 : w6.cell? ⟨w.heap.size + 1 + 1, 2, none⟩ = some (.int .i64 v2) := (B26.out.cell _).trans rfl
  have t3 : w6.cell? ⟨w.heap.size + 1 + 1, 3, none⟩ = some (.int .i64 0) := (B26.out.cell _).trans rfl
  have t4 : w6.cell? ⟨w.heap.size + 1 + 1, 4, none⟩ = some (.int .i64 0) := (B26.out.cell _).trans rfl
  have t5 : w6.cell? ⟨w.heap.size + 1 + 1, 5, none⟩ = some (.int .i64 0) := (B26.out.cell _).trans rfl
  have r0 : w6.cell? ⟨w.heap.size + 1, 0, none⟩ = some (.int .i64 0) := (B16.out.cell _).trans rfl
  have r1 : w6.cell? ⟨w.heap.size + 1, 1, none⟩ = some (.int .i64 0) := (B16.out.cell _).trans rfl
  have r2 : w6.cell? ⟨w.heap.size + 1, 2, none⟩ = some (.int .i64 0) := (B16.out.cell _).trans rfl
  have r3 : w6.cell? ⟨w.heap.size + 1, 3, none⟩ = some (.int .i64 0) := (B16.out.cell _).trans rfl
  have r4 : w6.cell? ⟨w.heap.size + 1, 4, none⟩ = some (.int .i64 0) := (B16.out.cell _).trans rfl
  have r5 : w6.cell? ⟨w.heap.size + 1, 5, none⟩ = some (.int .i64 0) := (B16.out.cell _).trans rfl
  have u0 := B16.out.free 0
  have u1 := B16.out.free 1
  have u2 := B16.out.free 2
  have u3 := B16.out.free 3
  have u4 := B16.out.free 4
  have u5 := B16.out.free 5
  have lr := B16.out.lt
  have lt2 := B26.out.lt
  have hn12 : ¬ w.heap.size + 1 + 1 = w.heap.size + 1 := by omega
  have hnn : Hid (S ≠ w.heap.size + 1) := (show S ≠ w.heap.size + 1 from by omega)
  clear KW hS6 hg6 kA e9 l9
  go_wp2
  obtain ⟨W7, hW7⟩ : ∃ x, x = ((((((w6.setCell ⟨w.heap.size + 1, 0, none⟩ (.int .i64 1)).setCell ⟨w.heap.size + 1, 1, none⟩ (.int .i64 v1)).setCell ⟨w.heap.size + 1, 2, none⟩ (.int .i64 v2)).setCell ⟨w.heap.size + 1, 3, none⟩ (.int .i64 0)).setCell ⟨w.heap.size + 1, 4, none⟩ (.int .i64 0)).setCell ⟨w.heap.size + 1, 5, none⟩ (.int .i64 0)) := ⟨_, rfl⟩
  rw [← hW7]
  obtain ⟨x1, x2, x3⟩ := fill6 B16.out (.int .i64 1) (.int .i64 v1) (.int .i64 v2) (.int .i64 0) (.int .i64 0) (.int .i64 0) W7 hW7
  refine bodyPost_ret (results_cell_row Tryz.results125 _ _ (w.heap.size + 1) _ #[.int .i64 1, .int .i64 v1, .int .i64 v2, .int .i64 0, .int .i64 0, .int .i64 0] _ _ rfl x1 Tryz.underlying64 rfl (by kernel_rfl)) rfl ?_
  exact ⟨by rw [hv1, hv2], x2 _ _ _ HS6.out hnn.out, x3 _ _ HG6.out (by omega)⟩
end Go.Proofs.YtblaphkaklocfaaGreatDoor

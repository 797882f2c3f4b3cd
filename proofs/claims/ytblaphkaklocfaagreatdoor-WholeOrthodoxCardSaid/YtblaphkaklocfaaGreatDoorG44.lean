/- Contracts: query.Ask at Orthodox and at Convert. -/
import Derived.Test.YtblaphkaklocfaaGreatDoorG40
import Derived.Test.YtblaphkaklocfaaGreatDoorG43
set_option linter.unusedSimpArgs false
set_option linter.unusedVariables false
set_option linter.unusedSectionVars false
namespace Go.Proofs.YtblaphkaklocfaaGreatDoor
open Go.ChangeShapes Go.WideShapes Go.ChangeAt Go.RowKit Go.Maps Go.ChangeMaps Go.MapKept
set_option maxHeartbeats 4000000
set_option maxRecDepth 20000

theorem ot_e (y x1 x2 x3 e : Int) (h : OtRel y x1 x2 x3 e) : 0 ≤ e ∧ e ≤ 3 := by
  rcases h with ⟨_, _, _, _, rfl⟩ | ⟨_, ⟨_, ⟨_, _, _, _, rfl⟩ | ⟨_, _, rfl⟩⟩ | ⟨_, _, _, _, rfl⟩⟩
  · exact fl_range 1 y
  all_goals omega
theorem ot_zero (y x1 x2 x3 : Int) (h : OtRel y x1 x2 x3 0) : Fit 1 y ∧ OkD 2 x1 x2 x3 ∧ num 2 x1 x2 x3 = esN 1 y := by
  rcases h with ⟨g, _, _, _, h⟩ | ⟨g, ⟨_, ⟨_, _, _, _, h⟩ | ⟨ho, hn, _⟩⟩ | ⟨_, _, _, _, h⟩⟩
  · exact absurd h.symm g
  · omega
  · exact ⟨fl_fit 1 y g, ho, hn⟩
  · omega
theorem ot_err (y x1 x2 x3 e : Int) (h : OtRel y x1 x2 x3 e) (he : e ≠ 0) : x1 = 0 ∧ x2 = 0 ∧ x3 = 0 := by
  rcases h with ⟨_, a, b, c, _⟩ | ⟨_, ⟨_, ⟨_, a, b, c, _⟩ | ⟨_, _, h⟩⟩ | ⟨_, a, b, c, _⟩⟩
  · exact ⟨a, b, c⟩
  · exact ⟨a, b, c⟩
  · exact absurd h he
  · exact ⟨a, b, c⟩
theorem ask_ort (y x1 x2 x3 n : Int) (w : World) (hT : WTab w) (hr : OtRel y x1 x2 x3 n) (hb : (-1000000000000 ≤ x1 ∧ x1 ≤ 1000000000000) ∧ (-1000000000000 ≤ x2 ∧ x2 ≤ 1000000000000) ∧ (-1000000000000 ≤ x3 ∧ x3 ≤ 1000000000000)) :
    Calls Tryz.prog 12 #[.agg #[.int .i64 2, .int .i64 0, .int .i64 0, .int .i64 y, .int .i64 0, .int .i64 0, .int .i64 0, .string ⟨#[]⟩]] w fun e w' => e = .returned (.agg #[.string (ansT n x1 x2 x3), .int .i64 0, .int .i64 n]) ∧ Kept w w' := by
  have KP := fun w' (q : Kept w w') => eas_gen 2 0 0 y 0 0 0 x1 x2 x3 n ⟨#[]⟩ w' (hT.2.kept q) hb (Lib.hid (fun w2 q2 => ODate_any y x1 x2 x3 n w2 (hT.1.kept (q.trans q2)) hr))
  by_cases hn : n = 0
  · subst hn
    rw [show ansT 0 x1 x2 x3 = dateT x1 x2 x3 from if_pos rfl]
    refine ask_ok 2 0 0 y 0 0 0 ⟨#[]⟩ _ _ w (by decide) k_ort.1 k_ort.2 (Lib.hid (fun _ _ => rfl)) (Lib.hid (fun w' q => (KP w' q).mono fun e w2 h => ?_))
    obtain ⟨⟨_, rfl⟩ | ⟨h, _⟩, hk⟩ := h
    · exact ⟨rfl, hk⟩
    · exact absurd rfl h
  · rw [show ansT n x1 x2 x3 = ⟨#[]⟩ from if_neg hn]
    refine ask_err 2 0 0 y 0 0 0 n 0 ⟨#[]⟩ _ w (by decide) k_ort.1 k_ort.2 (Lib.hid (fun _ _ => rfl)) (Lib.hid (fun w' q => (KP w' q).mono fun e w2 h => ?_))
    obtain ⟨⟨h, _⟩ | ⟨_, rfl⟩, hk⟩ := h
    · exact absurd h hn
    · exact ⟨rfl, hk⟩
theorem ask_con (c a b d x1 x2 x3 n : Int) (w : World) (hT : WTab w) (hc : 0 ≤ c ∧ c ≤ 3) (hr : CvRel a b d c (3 - c) x1 x2 x3 n) (hb : (-1000000000000 ≤ x1 ∧ x1 ≤ 1000000000000) ∧ (-1000000000000 ≤ x2 ∧ x2 ≤ 1000000000000) ∧ (-1000000000000 ≤ x3 ∧ x3 ≤ 1000000000000)) :
    Calls Tryz.prog 12 #[.agg #[.int .i64 3, .int .i64 c, .int .i64 0, .int .i64 0, .int .i64 a, .int .i64 b, .int .i64 d, .string ⟨#[]⟩]] w fun e w' => e = .returned (.agg #[.string (ansT n x1 x2 x3), .int .i64 0, .int .i64 n]) ∧ Kept w w' := by
  have KP := fun w' (q : Kept w w') => con_gen 3 c 0 0 a b d x1 x2 x3 n ⟨#[]⟩ w' (hT.2.kept q) hb hc (Lib.hid (fun w2 q2 => Convert_all a b d c (3 - c) x1 x2 x3 n w2 (hT.1.kept (q.trans q2)).1 hr))
  by_cases hn : n = 0
  · subst hn
    rw [show ansT 0 x1 x2 x3 = dateT x1 x2 x3 from if_pos rfl]
    refine ask_ok 3 c 0 0 a b d ⟨#[]⟩ _ _ w (by decide) k_con.1 k_con.2 (Lib.hid (fun _ _ => rfl)) (Lib.hid (fun w' q => (KP w' q).mono fun e w2 h => ?_))
    obtain ⟨⟨_, rfl⟩ | ⟨h, _⟩, hk⟩ := h
    · exact ⟨rfl, hk⟩
    · exact absurd rfl h
  · rw [show ansT n x1 x2 x3 = ⟨#[]⟩ from if_neg hn]
    refine ask_err 3 c 0 0 a b d n 0 ⟨#[]⟩ _ w (by decide) k_con.1 k_con.2 (Lib.hid (fun _ _ => rfl)) (Lib.hid (fun w' q => (KP w' q).mono fun e w2 h => ?_))
    obtain ⟨⟨h, _⟩ | ⟨_, rfl⟩, hk⟩ := h
    · exact absurd h hn
    · exact ⟨rfl, hk⟩
end Go.Proofs.YtblaphkaklocfaaGreatDoor

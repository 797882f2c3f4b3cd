/- Contracts and plain lemmas: LaidW, AskM. -/
import Derived.Test.YtblaphkaklocfaaGreatDoorCards
import Derived.Test.YtblaphkaklocfaaGreatDoorTie
import Derived.Test.YtblaphkaklocfaaGreatDoorG05
import Derived.Test.YtblaphkaklocfaaGreatDoorG07
import Derived.Test.YtblaphkaklocfaaGreatDoorG08
import Derived.Test.YtblaphkaklocfaaGreatDoorG30
import Derived.Test.YtblaphkaklocfaaGreatDoorG36
import Derived.Deep.DeepHandedRow
import Derived.Lib.LaidTab
set_option linter.unusedSimpArgs false
set_option linter.unusedVariables false
set_option linter.unusedSectionVars false
/- The listed variables of the Whole laws: what a walk may read of them; a world that holds them. -/
namespace Go.Proofs.YtblaphkaklocfaaGreatDoor
open Go.ChangeShapes Go.WideShapes Go.ChangeAt Go.RowKit

theorem laidVars_tail {P : Program} {W : World} {x : String × DataW Unit} {rest : List (String × DataW Unit)} {ps : List MemPlace} (h : DataW.LaidVars P W (x :: rest) ps) : ∃ q, DataW.LaidVars P W rest q := by
  obtain ⟨g, t, cs, fuel, p, q, _, _, _, _, h2, _⟩ := h
  exact ⟨q, h2⟩
theorem tabIs_of_vars {P : Program} {W : World} {name : String} {k : IntKind} {zs : List Int} {rest : List (String × DataW Unit)} {ps : List MemPlace} {g : Nat} {t e : TypeId} {n : Nat}
    (hg : P.globalNamed name = some g) (hty : (P.globals[g]?).map (·.type) = some t) (ht : P.underlying t = some (.array n e)) (he : P.underlying e = some (.int k)) (hce : P.cellsOf e = 1) (hct : P.cellsOf t = n)
    (h : DataW.LaidVars P W ((name, Lib.tabData k zs) :: rest) ps) : Lib.TabIs P W name k zs := by
  obtain ⟨g', t', cs, fuel, p, q, hg', ht', hvar, hd, _, _⟩ := h
  obtain rfl := Option.some.inj (hg.symm.trans hg')
  obtain rfl := Option.some.inj (hty.symm.trans ht')
  unfold Lib.TabIs
  rw [hvar, ← Lib.cells_of_tab ht he hce hct hd]
/-- The tables that a walk reads. -/
def WTab (w : World) : Prop := RTab w ∧ Tab10 w
theorem WTab.kept {w w' : World} (h : WTab w) (k : Kept w w') : WTab w' := ⟨h.1.kept k, h.2.kept k⟩
theorem g_julian_lengths : Tryz.prog.globalNamed "computus/julian.lengths" = some 4 := by kernel_rfl
theorem gt_julian_lengths : (Tryz.prog.globals[4]?).map (·.type) = some 289 := by kernel_rfl
theorem g_label_lengths : Tryz.prog.globalNamed "computus/label.lengths" = some 8 := by kernel_rfl
theorem gt_label_lengths : (Tryz.prog.globals[8]?).map (·.type) = some 289 := by kernel_rfl
theorem g_label_spans : Tryz.prog.globalNamed "computus/label.spans" = some 9 := by kernel_rfl
theorem gt_label_spans : (Tryz.prog.globals[9]?).map (·.type) = some 289 := by kernel_rfl
theorem g_strconv_uint64pow10 : Tryz.prog.globalNamed "internal/strconv.uint64pow10" = some 2 := by kernel_rfl
theorem gt_strconv_uint64pow10 : (Tryz.prog.globals[2]?).map (·.type) = some 269 := by kernel_rfl
theorem cw_12int : Tryz.prog.cellsOf 289 = 12 := by kernel_rfl
theorem cw_int : Tryz.prog.cellsOf 3 = 1 := by kernel_rfl
theorem cw_20uint64 : Tryz.prog.cellsOf 269 = 20 := by kernel_rfl
theorem cw_uint64 : Tryz.prog.cellsOf 233 = 1 := by kernel_rfl
theorem tab_of {W : World} (h : laidMetH Tryz.prog [("math/bits.deBruijn32tab", Rows.laid_math_bits_deBruijn32tab), ("math/bits.deBruijn64tab", Rows.laid_math_bits_deBruijn64tab), ("internal/strconv.uint64pow10", Rows.laid_internal_strconv_uint64pow10), ("computus/julian.lengths", Rows.laid_computus_julian_lengths), ("computus/weekday.names", Rows.laid_computus_weekday_names), ("computus/label.lengths", Rows.laid_computus_label_lengths), ("computus/label.spans", Rows.laid_computus_label_spans), ("computus/cattext.policies", Rows.laid_computus_cattext_policies), ("computus/ordotext.kinds", Rows.laid_computus_ordotext_kinds)] W) : WTab W := by
  obtain ⟨ps, h0, _⟩ := (show laidMet Tryz.prog [("math/bits.deBruijn32tab", Rows.laid_math_bits_deBruijn32tab), ("math/bits.deBruijn64tab", Rows.laid_math_bits_deBruijn64tab), ("internal/strconv.uint64pow10", Rows.laid_internal_strconv_uint64pow10), ("computus/julian.lengths", Rows.laid_computus_julian_lengths), ("computus/weekday.names", Rows.laid_computus_weekday_names), ("computus/label.lengths", Rows.laid_computus_label_lengths), ("computus/label.spans", Rows.laid_computus_label_spans), ("computus/cattext.policies", Rows.laid_computus_cattext_policies), ("computus/ordotext.kinds", Rows.laid_computus_ordotext_kinds)] W from h)
  obtain ⟨q1, h1⟩ := laidVars_tail h0
  obtain ⟨q2, h2⟩ := laidVars_tail h1
  obtain ⟨q3, h3⟩ := laidVars_tail h2
  obtain ⟨q4, h4⟩ := laidVars_tail h3
  obtain ⟨q5, h5⟩ := laidVars_tail h4
  obtain ⟨q6, h6⟩ := laidVars_tail h5
  have hJ : Lib.TabIs Tryz.prog W "computus/julian.lengths" .i64 [31, 28, 31, 30, 31, 30, 31, 31, 30, 31, 30, 31] := tabIs_of_vars g_julian_lengths gt_julian_lengths Tryz.underlying289 Tryz.underlying3 cw_int cw_12int h3
  have hT : Lib.TabIs Tryz.prog W "computus/label.lengths" .i64 [31, 28, 31, 30, 31, 30, 31, 31, 30, 31, 30, 31] := tabIs_of_vars g_label_lengths gt_label_lengths Tryz.underlying289 Tryz.underlying3 cw_int cw_12int h5
  have hS : Lib.TabIs Tryz.prog W "computus/label.spans" .i64 [30, 29, 30, 29, 30, 29, 30, 29, 30, 29, 30, 29] := tabIs_of_vars g_label_spans gt_label_spans Tryz.underlying289 Tryz.underlying3 cw_int cw_12int h6
  have hP : Lib.TabIs Tryz.prog W "internal/strconv.uint64pow10" .u64 Lib.pow10Tab := tabIs_of_vars g_strconv_uint64pow10 gt_strconv_uint64pow10 Tryz.underlying269 Tryz.underlying233 cw_uint64 cw_20uint64 h2
  refine ⟨⟨?_, ?_, ?_⟩, hP⟩
  · intro m h1 h2
    have := hJ.cell g_julian_lengths (m - 1).toNat (by simp; omega)
    rw [this]
    rcases month_cases m h1 h2 with rfl | rfl | rfl | rfl | rfl | rfl | rfl | rfl | rfl | rfl | rfl | rfl <;> rfl
  · intro m h1 h2
    have := hT.cell g_label_lengths (m - 1).toNat (by simp; omega)
    rw [show m.toNat - 1 = (m - 1).toNat from by omega, this]
    rcases month_cases m h1 h2 with rfl | rfl | rfl | rfl | rfl | rfl | rfl | rfl | rfl | rfl | rfl | rfl <;> rfl
  · intro l h1 h2
    have := hS.cell g_label_spans l.toNat (by simp; omega)
    rw [this]
    rcases (show l = 0 ∨ l = 1 ∨ l = 2 ∨ l = 3 ∨ l = 4 ∨ l = 5 ∨ l = 6 ∨ l = 7 ∨ l = 8 ∨ l = 9 ∨ l = 10 ∨ l = 11 by omega) with rfl | rfl | rfl | rfl | rfl | rfl | rfl | rfl | rfl | rfl | rfl | rfl <;> rfl
def setCells (xs : Array Value) : Obj → Obj
  | .cells _ t frozen => .cells xs t frozen
  | o => o
def cw_laid_math_bits_deBruijn32tab : Array Value := #[.int .u8 0, .int .u8 1, .int .u8 28, .int .u8 2, .int .u8 29, .int .u8 14, .int .u8 24, .int .u8 3, .int .u8 30, .int .u8 22, .int .u8 20, .int .u8 15, .int .u8 25, .int .u8 17, .int .u8 4, .int .u8 8, .int .u8 31, .int .u8 27, .int .u8 13, .int .u8 23, .int .u8 21, .int .u8 19, .int .u8 16, .int .u8 7, .int .u8 26, .int .u8 12, .int .u8 18, .int .u8 6, .int .u8 11, .int .u8 5, .int .u8 10, .int .u8 9]
def cw_laid_math_bits_deBruijn64tab : Array Value := #[.int .u8 0, .int .u8 1, .int .u8 56, .int .u8 2, .int .u8 57, .int .u8 49, .int .u8 28, .int .u8 3, .int .u8 61, .int .u8 58, .int .u8 42, .int .u8 50, .int .u8 38, .int .u8 29, .int .u8 17, .int .u8 4, .int .u8 62, .int .u8 47, .int .u8 59, .int .u8 36, .int .u8 45, .int .u8 43, .int .u8 51, .int .u8 22, .int .u8 53, .int .u8 39, .int .u8 33, .int .u8 30, .int .u8 24, .int .u8 18, .int .u8 12, .int .u8 5, .int .u8 63, .int .u8 55, .int .u8 48, .int .u8 27, .int .u8 60, .int .u8 41, .int .u8 37, .int .u8 16, .int .u8 46, .int .u8 35, .int .u8 44, .int .u8 21, .int .u8 52, .int .u8 32, .int .u8 23, .int .u8 11, .int .u8 54, .int .u8 26, .int .u8 40, .int .u8 15, .int .u8 34, .int .u8 20, .int .u8 31, .int .u8 10, .int .u8 25, .int .u8 14, .int .u8 19, .int .u8 9, .int .u8 13, .int .u8 8, .int .u8 7, .int .u8 6]
def cw_laid_internal_strconv_uint64pow10 : Array Value := #[.int .u64 1, .int .u64 10, .int .u64 100, .int .u64 1000, .int .u64 10000, .int .u64 100000, .int .u64 1000000, .int .u64 10000000, .int .u64 100000000, .int .u64 1000000000, .int .u64 10000000000, .int .u64 100000000000, .int .u64 1000000000000, .int .u64 10000000000000, .int .u64 100000000000000, .int .u64 1000000000000000, .int .u64 10000000000000000, .int .u64 100000000000000000, .int .u64 1000000000000000000, .int .u64 10000000000000000000]
def cw_laid_computus_julian_lengths : Array Value := #[.int .i64 31, .int .i64 28, .int .i64 31, .int .i64 30, .int .i64 31, .int .i64 30, .int .i64 31, .int .i64 31, .int .i64 30, .int .i64 31, .int .i64 30, .int .i64 31]
def cw_laid_computus_weekday_names : Array Value := #[.string ⟨#[115, 117, 110, 100, 97, 121]⟩, .string ⟨#[109, 111, 110, 100, 97, 121]⟩, .string ⟨#[116, 117, 101, 115, 100, 97, 121]⟩, .string ⟨#[119, 101, 100, 110, 101, 115, 100, 97, 121]⟩, .string ⟨#[116, 104, 117, 114, 115, 100, 97, 121]⟩, .string ⟨#[102, 114, 105, 100, 97, 121]⟩, .string ⟨#[115, 97, 116, 117, 114, 100, 97, 121]⟩]
def cw_laid_computus_label_lengths : Array Value := #[.int .i64 31, .int .i64 28, .int .i64 31, .int .i64 30, .int .i64 31, .int .i64 30, .int .i64 31, .int .i64 31, .int .i64 30, .int .i64 31, .int .i64 30, .int .i64 31]
def cw_laid_computus_label_spans : Array Value := #[.int .i64 30, .int .i64 29, .int .i64 30, .int .i64 29, .int .i64 30, .int .i64 29, .int .i64 30, .int .i64 29, .int .i64 30, .int .i64 29, .int .i64 30, .int .i64 29]
def cw_laid_computus_cattext_policies : Array Value := #[.string ⟨#[116, 114, 97, 110, 115, 102, 101, 114]⟩, .string ⟨#[99, 111, 109, 109, 101, 109, 111, 114, 97, 116, 101]⟩, .string ⟨#[111, 109, 105, 116]⟩]
def cw_laid_computus_ordotext_kinds : Array Value := #[.string ⟨#[116, 101, 109, 112, 111, 114, 97, 108]⟩, .string ⟨#[112, 114, 111, 112, 101, 114]⟩, .string ⟨#[109, 111, 118, 101, 100]⟩]
/-- A world for the witness: the settled one, the variables holding what their initialisers lay. -/
noncomputable def laidWorld (os : Os) : World :=
  { World.holding Tryz.prog os ⟨#[], #[], []⟩ with heap := ((((((((((World.holding Tryz.prog os ⟨#[], #[], []⟩).heap.modify 6 (setCells cw_laid_math_bits_deBruijn32tab)).modify 7 (setCells cw_laid_math_bits_deBruijn64tab)).modify 2 (setCells cw_laid_internal_strconv_uint64pow10)).modify 4 (setCells cw_laid_computus_julian_lengths)).modify 1 (setCells cw_laid_computus_weekday_names)).modify 8 (setCells cw_laid_computus_label_lengths)).modify 9 (setCells cw_laid_computus_label_spans)).modify 0 (setCells cw_laid_computus_cattext_policies)).modify 3 (setCells cw_laid_computus_ordotext_kinds)) }
end Go.Proofs.YtblaphkaklocfaaGreatDoor
/- Contract: query.Ask at Easter by whatever method. -/
namespace Go.Proofs.YtblaphkaklocfaaGreatDoor
open Go.ChangeShapes Go.WideShapes Go.ChangeAt Go.RowKit Go.Maps Go.ChangeMaps Go.MapKept
set_option maxHeartbeats 4000000
set_option maxRecDepth 20000

theorem k_pas : kindsD.atKey (.int .i64 1) (.lit (.int .i64 (-1))) = .lit (.int .i64 87) ∧ Maps.has kindsD (.int .i64 1) = true := ⟨by kernel_rfl, by kernel_rfl⟩
theorem k_ort : kindsD.atKey (.int .i64 2) (.lit (.int .i64 (-1))) = .lit (.int .i64 88) ∧ Maps.has kindsD (.int .i64 2) = true := ⟨by kernel_rfl, by kernel_rfl⟩
theorem k_con : kindsD.atKey (.int .i64 3) (.lit (.int .i64 (-1))) = .lit (.int .i64 89) ∧ Maps.has kindsD (.int .i64 3) = true := ⟨by kernel_rfl, by kernel_rfl⟩
theorem m_tab : methD.atKey (.int .i64 1) (.lit (.int .i64 (-1))) = .lit (.int .i64 13) ∧ Maps.has methD (.int .i64 1) = true := ⟨by kernel_rfl, by kernel_rfl⟩
theorem m_gau : methD.atKey (.int .i64 2) (.lit (.int .i64 (-1))) = .lit (.int .i64 186) ∧ Maps.has methD (.int .i64 2) = true := ⟨by kernel_rfl, by kernel_rfl⟩
theorem m_but : methD.atKey (.int .i64 3) (.lit (.int .i64 (-1))) = .lit (.int .i64 187) ∧ Maps.has methD (.int .i64 3) = true := ⟨by kernel_rfl, by kernel_rfl⟩
/-- The text of an answer: of a date, or none. -/
def ansT (n x1 x2 x3 : Int) : ByteArray := if n = 0 then dateT x1 x2 x3 else ⟨#[]⟩
theorem ask_pas (c m y x1 x2 x3 n : Int) (F : Nat) (w : World) (hT : WTab w) (hK : (Lit.int .i64 m).wf = true)
    (e1 : methD.atKey (.int .i64 m) (.lit (.int .i64 (-1))) = .lit (.int .i64 F)) (e2 : Maps.has methD (.int .i64 m) = true)
    (hN : Hid (∀ args w, (callFunc F args).run Tryz.prog w = .ok (.enter F args) w)) (hb : (-1000000000000 ≤ x1 ∧ x1 ≤ 1000000000000) ∧ (-1000000000000 ≤ x2 ∧ x2 ≤ 1000000000000) ∧ (-1000000000000 ≤ x3 ∧ x3 ≤ 1000000000000))
    (KE : Hid (∀ w', Kept w w' → Calls Tryz.prog F #[.int .i64 c, .int .i64 y] w' fun e w2 => e = .returned (.tuple #[.agg #[.int .i64 x1, .int .i64 x2, .int .i64 x3], .int .i64 n]) ∧ Kept w' w2)) :
    Calls Tryz.prog 12 #[.agg #[.int .i64 1, .int .i64 c, .int .i64 m, .int .i64 y, .int .i64 0, .int .i64 0, .int .i64 0, .string ⟨#[]⟩]] w fun e w' => e = .returned (.agg #[.string (ansT n x1 x2 x3), .int .i64 0, .int .i64 n]) ∧ Kept w w' := by
  have KP := fun w' (q : Kept w w') => pasc_gen 1 c m y 0 0 0 x1 x2 x3 n ⟨#[]⟩ F w' (hT.2.kept q) hK e1 e2 hN hb (Lib.hid (fun w2 q2 => KE.out w2 (q.trans q2)))
  by_cases hn : n = 0
  · subst hn
    rw [show ansT 0 x1 x2 x3 = dateT x1 x2 x3 from if_pos rfl]
    refine ask_ok 1 c m y 0 0 0 ⟨#[]⟩ _ _ w (by decide) k_pas.1 k_pas.2 (Lib.hid (fun _ _ => rfl)) (Lib.hid (fun w' q => (KP w' q).mono fun e w2 h => ?_))
    obtain ⟨⟨_, rfl⟩ | ⟨h, _⟩, hk⟩ := h
    · exact ⟨rfl, hk⟩
    · exact absurd rfl h
  · rw [show ansT n x1 x2 x3 = ⟨#[]⟩ from if_neg hn]
    refine ask_err 1 c m y 0 0 0 n 0 ⟨#[]⟩ _ w (by decide) k_pas.1 k_pas.2 (Lib.hid (fun _ _ => rfl)) (Lib.hid (fun w' q => (KP w' q).mono fun e w2 h => ?_))
    obtain ⟨⟨h, _⟩ | ⟨_, rfl⟩, hk⟩ := h
    · exact absurd h hn
    · exact ⟨rfl, hk⟩
theorem ask_m (k m y : Int) (w : World) (hT : WTab w) (hk : 1 ≤ k ∧ k ≤ 2) (hm : 1 ≤ m ∧ m ≤ 3) :
    Calls Tryz.prog 12 #[.agg #[.int .i64 1, .int .i64 k, .int .i64 m, .int .i64 y, .int .i64 0, .int .i64 0, .int .i64 0, .string ⟨#[]⟩]] w fun e w' => e = .returned (.agg #[.string (ansT (flE k y) y (dmo (easI k y)) (dda (easI k y))), .int .i64 0, .int .i64 (flE k y)]) ∧ Kept w w' := by
  have hs : Sm k := by unfold Sm; omega
  rcases fl_cases k y with ⟨h, e0⟩ | ⟨h, e0⟩ | ⟨h, e0⟩
  · obtain ⟨hi1, hi2, _, _⟩ := easI_bounds k y
    obtain ⟨_, hy1, hy2⟩ := fit_cal k y h
    have hb : (-1000000000000 ≤ y ∧ y ≤ 1000000000000) ∧ (-1000000000000 ≤ dmo (easI k y) ∧ dmo (easI k y) ≤ 1000000000000) ∧ (-1000000000000 ≤ dda (easI k y) ∧ dda (easI k y) ≤ 1000000000000) := by
      refine ⟨by omega, ?_, ?_⟩
      · unfold dmo; split <;> omega
      · unfold dda; split <;> omega
    rw [e0]
    rcases (show m = 1 ∨ m = 2 ∨ m = 3 by omega) with rfl | rfl | rfl
    · refine ask_pas k 1 y y _ _ 0 _ w hT (by decide) m_tab.1 m_tab.2 (Lib.hid (fun _ _ => rfl)) hb (Lib.hid (fun w' q => ?_))
      have := EDate_any k y w' (hT.1.kept q) hs
      obtain ⟨a1, a2, a3⟩ := ed_fit k y e0
      rw [a1, a2, a3, e0] at this
      exact this
    · refine ask_pas k 2 y y _ _ 0 _ w hT (by decide) m_gau.1 m_gau.2 (Lib.hid (fun _ _ => rfl)) hb (Lib.hid (fun w' q => ?_))
      have := Gau_ok k y w' h
      rw [(g_date _ y h).1, (g_date _ y h).2] at this
      exact this
    · refine ask_pas k 3 y y _ _ 0 _ w hT (by decide) m_but.1 m_but.2 (Lib.hid (fun _ _ => rfl)) hb (Lib.hid (fun w' q => ?_))
      have := But_ok k y w' h
      rw [(b_date _ y h).1, (b_date _ y h).2] at this
      exact this
  · rw [e0, show ansT 1 y (dmo (easI k y)) (dda (easI k y)) = ansT 1 0 0 0 from rfl]
    rcases (show m = 1 ∨ m = 2 ∨ m = 3 by omega) with rfl | rfl | rfl
    · refine ask_pas k 1 y 0 0 0 1 _ w hT (by decide) m_tab.1 m_tab.2 (Lib.hid (fun _ _ => rfl)) (by omega) (Lib.hid (fun w' q => ?_))
      have := EDate_any k y w' (hT.1.kept q) hs
      obtain ⟨a1, a2, a3⟩ := ed_no k y (by omega)
      rw [a1, a2, a3, e0] at this
      exact this
    · exact ask_pas k 2 y 0 0 0 1 _ w hT (by decide) m_gau.1 m_gau.2 (Lib.hid (fun _ _ => rfl)) (by omega) (Lib.hid (fun w' q => Gau_off k y w' h))
    · exact ask_pas k 3 y 0 0 0 1 _ w hT (by decide) m_but.1 m_but.2 (Lib.hid (fun _ _ => rfl)) (by omega) (Lib.hid (fun w' q => But_off k y w' h))
  · omega
end Go.Proofs.YtblaphkaklocfaaGreatDoor

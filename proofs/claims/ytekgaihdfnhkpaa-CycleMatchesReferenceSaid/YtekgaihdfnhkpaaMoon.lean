/- Plain: the label of a year, the paschal full moon and Easter by the tables. -/
import Derived.Test.YtekgaihdfnhkpaaLabB
import Derived.Test.YtekgaihdfnhkpaaRefF
import Derived.Test.YtekgaihdfnhkpaaGold0
set_option linter.unusedSimpArgs false
set_option linter.unusedVariables false
set_option linter.unusedSectionVars false
namespace Go.Proofs.Ytekgaihdfnhkpaa

/-- The epact of a year. -/
def epR (k y : Int) : Int := if k = 1 then 11 * glN y - 3 else 11 * glN y + 20 + luN y - soN y
def epN (k y : Int) : Int := (epR k y - 1) % 30 + 1
/-- The label of a year. -/
def labN (k y : Int) : Int := if epN k y = 25 ∧ 11 < glN y then 31 else epN k y
theorem epN_bounds (k y : Int) : 1 ≤ epN k y ∧ epN k y ≤ 30 := by unfold epN; omega
theorem labN_bounds (k y : Int) : 1 ≤ labN k y ∧ labN k y ≤ 31 := by have := epN_bounds k y; unfold labN; split <;> omega
/-- The days from 21 March to the full moon whose new moon has the label l. -/
def offL (l : Int) : Int := if l ≤ 23 then 23 - l else if l ≤ 25 then 28 else if l = 31 then 27 else 53 - l
theorem offL_bounds (l : Int) (h : 1 ≤ l) (h' : l ≤ 31) : 0 ≤ offL l ∧ offL l ≤ 28 := by unfold offL; split <;> (try split) <;> (try split) <;> omega
def moonI (k y : Int) : Int := offL (labN k y)
theorem moonI_bounds (k y : Int) : 0 ≤ moonI k y ∧ moonI k y ≤ 28 := by have := labN_bounds k y; exact offL_bounds _ this.1 this.2
/-- The date that is i days from 21 March. -/
def dmo (i : Int) : Int := if i ≤ 10 then 3 else 4
def dda (i : Int) : Int := if i ≤ 10 then 21 + i else i - 10
/-- The number of 21 March. -/
def eqN (k y : Int) : Int := num k y 3 21
theorem cum_3 (b : Bool) : cum b 3 = 59 + if b then 1 else 0 := by cases b <;> decide
theorem cum_4 (b : Bool) : cum b 4 = 90 + if b then 1 else 0 := by cases b <;> decide
theorem eqN_val (k y : Int) : eqN k y = fst k (y + 1) - 286 := by
  unfold eqN num
  rw [cum_3, fst_succ]
  omega
theorem eqN_bounds (k y : Int) (h : 1 ≤ y) (h' : y ≤ 1000000000) : 0 ≤ eqN k y ∧ eqN k y ≤ 365249999999 := by
  have h1 := fst_mono k 1 (y + 1) (by omega)
  have h2 := fst_bounds k (y + 1) (by omega) (by omega)
  have h3 := fst_one k
  rw [eqN_val]
  split at h3 <;> omega
theorem day_ok (k y i : Int) (h : 1 ≤ y) (h' : y ≤ 1000000000) (h1 : -20 ≤ i) (h2 : i ≤ 40) : OkD k y (dmo i) (dda i) ∧ num k y (dmo i) (dda i) = eqN k y + i := by
  have m3 : mlen (lp k y) 3 = 31 := by cases lp k y <;> decide
  have m4 : mlen (lp k y) 4 = 30 := by cases lp k y <;> decide
  unfold dmo dda
  by_cases hi : i ≤ 10
  · rw [if_pos hi, if_pos hi]
    refine ⟨⟨h, h', by omega, by omega, by omega, by omega⟩, ?_⟩
    unfold eqN num
    omega
  · rw [if_neg hi, if_neg hi]
    refine ⟨⟨h, h', by omega, by omega, by omega, by omega⟩, ?_⟩
    unfold eqN num
    rw [cum_3, cum_4]
    omega
theorem first_all : ∀ l : Fin 32, ∀ i : Fin 29, 1 ≤ l.val → bears (dmo ((i.val : Int) - 13)) (dda ((i.val : Int) - 13)) (l.val : Int) = decide ((i.val : Int) = offL (l.val : Int)) := by decide +kernel
theorem first_ok (l i : Int) (h : 1 ≤ l) (h' : l ≤ 31) (h1 : 0 ≤ i) (h2 : i ≤ 28) : bears (dmo (i - 13)) (dda (i - 13)) l = decide (i = offL l) := by
  have := first_all ⟨l.toNat, by omega⟩ ⟨i.toNat, by omega⟩ (by show 1 ≤ l.toNat; omega)
  simp only [Int.toNat_of_nonneg (show 0 ≤ l by omega), Int.toNat_of_nonneg (show 0 ≤ i by omega)] at this
  exact this
/-- Easter, by the tables, as days from 21 March. -/
def easI (k y : Int) : Int := moonI k y + 1 + (0 - (eqN k y + moonI k y + 1)) % 7
def esN (k y : Int) : Int := eqN k y + moonI k y + 1 + (0 - (eqN k y + moonI k y + 1)) % 7
theorem easI_bounds (k y : Int) : 1 ≤ easI k y ∧ easI k y ≤ 35 ∧ moonI k y < easI k y ∧ easI k y ≤ moonI k y + 7 := by
  have := moonI_bounds k y
  unfold easI
  omega
theorem esN_val (k y : Int) : esN k y = eqN k y + easI k y := by unfold esN easI; omega
theorem esN_sunday (k y : Int) : esN k y % 7 = 0 := by unfold esN; omega
end Go.Proofs.Ytekgaihdfnhkpaa

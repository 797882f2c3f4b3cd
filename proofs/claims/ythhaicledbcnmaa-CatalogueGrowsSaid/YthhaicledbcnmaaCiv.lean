/- Contracts: package civil and its reference: numbers and dates. -/
import Derived.Test.YthhaicledbcnmaaCiv0
import Derived.Test.YthhaicledbcnmaaJul2
import Derived.Test.YthhaicledbcnmaaRefJ
import Derived.Laws.EntriesVeiled
set_option linter.unusedSimpArgs false
set_option linter.unusedVariables false
set_option linter.unusedSectionVars false
namespace Go.Proofs.Ythhaicledbcnmaa
open Go.ChangeShapes Go.WideShapes Go.ChangeAt Go.RowKit
set_option maxHeartbeats 800000

theorem GToDay_all (y m d : Int) (w : World) :
    Calls Try.prog 61 #[.agg #[.int .i64 y, .int .i64 m, .int .i64 d]] w fun e w' => e = .returned (.tuple #[.int .i64 (tdN 2 y m d), .int .i64 (tdE 2 y m d)]) ∧ Kept w w' := by
  rcases td_cases 2 y m d with ⟨h, e1, e2⟩ | ⟨⟨h1, h2, h⟩, e1, e2⟩ | ⟨h, e1, e2⟩
  · rw [e1, e2]; exact ToDay_range _ _ _ _ h
  · rw [e1, e2]; exact ToDay_date _ _ _ _ h1 h2 h
  · rw [e1, e2]; exact ToDay_ok _ _ _ _ h
theorem rToDay_all (y m d : Int) (w : World) :
    Calls Try.prog 30 #[.agg #[.int .i64 y, .int .i64 m, .int .i64 d]] w fun e w' => e = .returned (.tuple #[.int .i64 (tdN 2 y m d), .int .i64 (tdE 2 y m d)]) ∧ Kept w w' := by
  rcases td_cases 2 y m d with ⟨h, e1, e2⟩ | ⟨⟨h1, h2, h⟩, e1, e2⟩ | ⟨h, e1, e2⟩
  · rw [e1, e2]; exact rToDay_range _ _ _ _ h
  · rw [e1, e2]; exact rToDay_date _ _ _ _ h1 h2 h
  · rw [e1, e2]; exact rToDay_ok _ _ _ _ h
end Go.Proofs.Ythhaicledbcnmaa

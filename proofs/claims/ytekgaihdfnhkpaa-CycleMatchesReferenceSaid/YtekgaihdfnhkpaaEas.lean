/- Contracts: package easter. -/
import Derived.Test.YtekgaihdfnhkpaaPas
import Derived.Outline
set_option linter.unusedSimpArgs false
set_option linter.unusedVariables false
set_option linter.unusedSectionVars false
namespace Go.Proofs.Ytekgaihdfnhkpaa
open Go.ChangeShapes Go.WideShapes Go.ChangeAt Go.RowKit
set_option maxHeartbeats 800000

def moonV (c y : Int) : Int := if flE c y = 0 then eqN c y + moonI c y else 0
def esV (c y : Int) : Int := if flE c y = 0 then esN c y else 0
theorem cell_new (w : World) (v : Value) (T : TypeId) : (w.alloc (.cells #[v] T)).cell? ⟨w.heap.size, 0, none⟩ = some v := by
  have := World.cell?_alloc_mark w #[v] T (0, 0) 0
  rw [this]
  rfl
theorem cell_next {w : World} {b o : Nat} {v : Value} (h : w.cell? ⟨b, o, none⟩ = some v) (x : Obj) : (w.alloc x).cell? ⟨b, o, none⟩ = some v := (((Kept.refl w).alloc x).cell _ _ (lt_cellL h)).trans h
end Go.Proofs.Ytekgaihdfnhkpaa

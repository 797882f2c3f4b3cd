/- The words of the translation's head: facts on the whole program that each row asks. -/
import Derived.Test.YtblaphkaklocfaaGreatDoorRows
set_option linter.unusedSimpArgs false
set_option linter.unusedVariables false
set_option linter.unusedSectionVars false
namespace Go.Proofs.YtblaphkaklocfaaGreatDoor
set_option maxRecDepth 20000

/-- The head's letters. -/
noncomputable def ioL : {l : List Char // Tryz.prog.initOrder = String.ofList l} := ⟨_, by rfl⟩
theorem io_list : Tryz.pinned.checked.prog.initOrder.toList = ioL.1 := (congrArg String.toList ioL.2).trans String.toList_ofList
theorem io_cut : behindMainWord (wordsSigns ioL.1) = "cut".toList :: (behindMainWord (wordsSigns ioL.1)).tail := by kernel_rfl
theorem make_cut {P : Program} {L : List Char} (h : P.initOrder.toList = L) {rest : List (List Char)} (hb : behindMainWord (wordsSigns L) = "cut".toList :: rest) : P.make = some .cut := by
  unfold Program.make
  rw [h, hb]
  rfl
theorem head_make : Tryz.pinned.checked.prog.make = some .cut := make_cut io_list io_cut
theorem strip_cut (rest : List (List Char)) : stripLifts liftWords ("cut".toList :: rest) = ([], "cut".toList :: rest) := by rfl
theorem enter_cut {P : Program} {L : List Char} (h : P.initOrder.toList = L) {rest : List (List Char)} (hb : behindMainWord (wordsSigns L) = "cut".toList :: rest) (h1 : P.laysLater = false) (h2 : P.bearsReflect = false) (h3 : P.doorFits [] = true) : P.mayEnter = true := by
  unfold Program.mayEnter
  rw [h, hb]
  simp only [strip_cut, h1, h2, h3]
  rfl
theorem head_later : Tryz.pinned.checked.prog.laysLater = false := by kernel_rfl
theorem head_reflect : Tryz.pinned.checked.prog.bearsReflect = false := by kernel_rfl
theorem head_door : Tryz.pinned.checked.prog.doorFits [] = true := by kernel_rfl
theorem head_enter : Tryz.pinned.checked.prog.mayEnter = true := enter_cut io_list io_cut head_later head_reflect head_door
theorem final_cut {P : Program} {L : List Char} (h : P.initOrder.toList = L) {rest : List (List Char)} (hb : behindMainWord (wordsSigns L) = "cut".toList :: rest) : P.liftsFinal = false := by
  unfold Program.liftsFinal Program.headLifts
  rw [h, hb]
  simp only [strip_cut]
  rfl
theorem head_final : Tryz.pinned.checked.prog.liftsFinal = false := final_cut io_list io_cut
theorem mainIs_of {P : Program} {L : List Char} {x : Option (Bool × List Char)} (h : P.initOrder.toList = L)
    (hx : (match wordsSigns L with | h :: s :: _ => if !isSumSigns s then none else if h == "harness".toList then some (true, s) else if h == "ownmain".toList then some (false, s) else none | _ => none) = x) : P.mainIs = x := by
  unfold Program.mainIs
  rw [h]
  exact hx
end Go.Proofs.YtblaphkaklocfaaGreatDoor

/-
  DERIVED. GIVEN WITH THE SEED: THE CARDS: each row of YtblaphkaklocfaaGreatDoorRows.lean that lists a variable, with what it lists TIED to the program's text (the seventh form; the later family's looks); each row that meets fmt, with fmt's text TOLD by the authors' own Lean function (tested against real Go, not proved from fmt's source: count such statements apart). THE CARD IS WHAT COUNTS. Prove the row's statement (the work); the ties are given (YtblaphkaklocfaaGreatDoorTie.lean); close each card by the builder's one call (the guide's Derived/Test/ToyasCard.lean, 'card_holds'). Laid BY PROGRAM, IN A SANDBOX (cutbox-door.mjs). By AI agents, Wed Nov 11 2026. No macro, syntax, notation, axiom, sorry.
-/
import Derived.Test.YtblaphkaklocfaaGreatDoorRows
import GoSem.ClaimSeven
namespace Go.Proofs.YtblaphkaklocfaaGreatDoor
namespace Rows

/-- THE TIED CARD OF 'computustop.WholeMethods'. -/
def wholeMethodsCard : Claim7 := { stood := { row := wholeMethodsRow, standIns := [], harness := (true, "54c61c50c540dca9e2f2ee47ae44cf79b7642dff2763ee843fcd63e521e72f88"), looks := true }, kinds := [], alts := [], laidByText := true, laidKinds := [.data, .data, .data, .data, .data, .widerDeep, .data, .widerDeep, .widerDeep], laidTests := true, laidLooks := .later }
def WholeMethodsCardSaid : Prop := Claim7.holds Tryz.pinned (.plain (OpenSpec.ofChange wholeMethodsSpec)) wholeMethodsCard

/-- THE TIED CARD OF 'computustop.WholeOrthodox'. -/
def wholeOrthodoxCard : Claim7 := { stood := { row := wholeOrthodoxRow, standIns := [], harness := (true, "54c61c50c540dca9e2f2ee47ae44cf79b7642dff2763ee843fcd63e521e72f88"), looks := true }, kinds := [], alts := [], laidByText := true, laidKinds := [.data, .data, .data, .data, .data, .widerDeep, .data, .widerDeep, .widerDeep], laidTests := true, laidLooks := .later }
def WholeOrthodoxCardSaid : Prop := Claim7.holds Tryz.pinned (.plain (OpenSpec.ofChange wholeOrthodoxSpec)) wholeOrthodoxCard

/-- THE TIED CARD OF 'computustop.WholeEntries'. -/
def wholeEntriesCard : Claim7 := { stood := { row := wholeEntriesRow, standIns := [], harness := (true, "54c61c50c540dca9e2f2ee47ae44cf79b7642dff2763ee843fcd63e521e72f88"), looks := true }, kinds := [], alts := [], laidByText := true, laidKinds := [.data, .data, .data, .data, .data, .widerDeep, .data, .widerDeep, .widerDeep], laidTests := true, laidLooks := .later }
def WholeEntriesCardSaid : Prop := Claim7.holds Tryz.pinned (.plain (OpenSpec.ofChange wholeEntriesSpec)) wholeEntriesCard

/-- THE TIED CARD OF 'computustop.WholeCalendar'. -/
def wholeCalendarCard : Claim7 := { stood := { row := wholeCalendarRow, standIns := [], harness := (true, "54c61c50c540dca9e2f2ee47ae44cf79b7642dff2763ee843fcd63e521e72f88"), looks := true }, kinds := [], alts := [], laidByText := true, laidKinds := [.data, .data, .data, .data, .data, .widerDeep, .data, .widerDeep, .widerDeep], laidTests := true, laidLooks := .later }
def WholeCalendarCardSaid : Prop := Claim7.holds Tryz.pinned (.plain (OpenSpec.ofChange wholeCalendarSpec)) wholeCalendarCard

/-- THE TIED CARD OF 'computustop.WholeBuiltin'. -/
def wholeBuiltinCard : Claim7 := { stood := { row := wholeBuiltinRow, standIns := [], harness := (true, "54c61c50c540dca9e2f2ee47ae44cf79b7642dff2763ee843fcd63e521e72f88"), looks := true }, kinds := [], alts := [], laidByText := true, laidKinds := [.data, .data, .data, .data, .data, .widerDeep, .data, .widerDeep, .widerDeep], laidTests := true, laidLooks := .later }
def WholeBuiltinCardSaid : Prop := Claim7.holds Tryz.pinned (.plain (OpenSpec.ofChange wholeBuiltinSpec)) wholeBuiltinCard

/-- THE SECOND FORM's CARD OF 'computustop.WholeMethods'. -/
def wholeMethodsUptoCard : Claim7 := { stood := { row := wholeMethodsUptoRow, standIns := [], harness := (true, "54c61c50c540dca9e2f2ee47ae44cf79b7642dff2763ee843fcd63e521e72f88"), looks := true }, kinds := [], alts := [], laidByText := true, laidKinds := [.data, .data, .data, .data, .data, .widerDeep, .data, .widerDeep, .widerDeep], laidTests := true, laidLooks := .later }
def WholeMethodsUptoCardSaid : Prop := Claim7.holds Tryz.pinned (.plain (OpenSpec.upto wholeMethodsSpec)) wholeMethodsUptoCard

/-- THE SECOND FORM's CARD OF 'computustop.WholeOrthodox'. -/
def wholeOrthodoxUptoCard : Claim7 := { stood := { row := wholeOrthodoxUptoRow, standIns := [], harness := (true, "54c61c50c540dca9e2f2ee47ae44cf79b7642dff2763ee843fcd63e521e72f88"), looks := true }, kinds := [], alts := [], laidByText := true, laidKinds := [.data, .data, .data, .data, .data, .widerDeep, .data, .widerDeep, .widerDeep], laidTests := true, laidLooks := .later }
def WholeOrthodoxUptoCardSaid : Prop := Claim7.holds Tryz.pinned (.plain (OpenSpec.upto wholeOrthodoxSpec)) wholeOrthodoxUptoCard

/-- THE SECOND FORM's CARD OF 'computustop.WholeEntries'. -/
def wholeEntriesUptoCard : Claim7 := { stood := { row := wholeEntriesUptoRow, standIns := [], harness := (true, "54c61c50c540dca9e2f2ee47ae44cf79b7642dff2763ee843fcd63e521e72f88"), looks := true }, kinds := [], alts := [], laidByText := true, laidKinds := [.data, .data, .data, .data, .data, .widerDeep, .data, .widerDeep, .widerDeep], laidTests := true, laidLooks := .later }
def WholeEntriesUptoCardSaid : Prop := Claim7.holds Tryz.pinned (.plain (OpenSpec.upto wholeEntriesSpec)) wholeEntriesUptoCard

/-- THE SECOND FORM's CARD OF 'computustop.WholeCalendar'. -/
def wholeCalendarUptoCard : Claim7 := { stood := { row := wholeCalendarUptoRow, standIns := [], harness := (true, "54c61c50c540dca9e2f2ee47ae44cf79b7642dff2763ee843fcd63e521e72f88"), looks := true }, kinds := [], alts := [], laidByText := true, laidKinds := [.data, .data, .data, .data, .data, .widerDeep, .data, .widerDeep, .widerDeep], laidTests := true, laidLooks := .later }
def WholeCalendarUptoCardSaid : Prop := Claim7.holds Tryz.pinned (.plain (OpenSpec.upto wholeCalendarSpec)) wholeCalendarUptoCard

/-- THE SECOND FORM's CARD OF 'computustop.WholeBuiltin'. -/
def wholeBuiltinUptoCard : Claim7 := { stood := { row := wholeBuiltinUptoRow, standIns := [], harness := (true, "54c61c50c540dca9e2f2ee47ae44cf79b7642dff2763ee843fcd63e521e72f88"), looks := true }, kinds := [], alts := [], laidByText := true, laidKinds := [.data, .data, .data, .data, .data, .widerDeep, .data, .widerDeep, .widerDeep], laidTests := true, laidLooks := .later }
def WholeBuiltinUptoCardSaid : Prop := Claim7.holds Tryz.pinned (.plain (OpenSpec.upto wholeBuiltinSpec)) wholeBuiltinUptoCard
end Rows
end Go.Proofs.YtblaphkaklocfaaGreatDoor

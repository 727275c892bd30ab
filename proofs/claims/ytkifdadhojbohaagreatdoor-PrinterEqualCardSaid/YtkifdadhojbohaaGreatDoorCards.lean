/-
  DERIVED. GIVEN WITH THE SEED: THE CARDS: each row of YtkifdadhojbohaaGreatDoorRows.lean that lists a variable, with what it lists TIED to the program's text (the seventh form; the later family's looks); each row that meets fmt, with fmt's text TOLD by the authors' own Lean function (tested against real Go, not proved from fmt's source: count such statements apart). THE CARD IS WHAT COUNTS. Prove the row's statement (the work); the ties are given (YtkifdadhojbohaaGreatDoorTie.lean); close each card by the builder's one call (the guide's Derived/Test/ToyasCard.lean, 'card_holds'). Laid BY PROGRAM, IN A SANDBOX (cutbox-door.mjs). By AI agents, Wed Nov 11 2026. No macro, syntax, notation, axiom, sorry.
-/
import Derived.Test.YtkifdadhojbohaaGreatDoorRows
import GoSem.ClaimSeven
namespace Go.Proofs.YtkifdadhojbohaaGreatDoor
namespace Rows

/-- THE TIED CARD OF 'salchowlaw11.PrinterLine'. -/
def printerLineCard : Claim7 := { stood := { row := printerLineRow, standIns := [], harness := (true, "91c84e077da0f3e7c89b9306fb49b5e0abee8c509dffb0b85426471aa589cd61"), looks := true }, kinds := [], alts := [], laidByText := true, laidKinds := [.data, .data, .data, .data, .sentinel, .sentinel, .pinned], laidTests := true, laidLooks := .later }
def PrinterLineCardSaid : Prop := Claim7.holds Tryz.pinned (.plain (OpenSpec.ofChange printerLineSpec)) printerLineCard

/-- THE TIED CARD OF 'salchowlaw11.PrinterPrints'. -/
def printerPrintsCard : Claim7 := { stood := { row := printerPrintsRow, standIns := [], harness := (true, "91c84e077da0f3e7c89b9306fb49b5e0abee8c509dffb0b85426471aa589cd61"), looks := true }, kinds := [], alts := [], laidByText := true, laidKinds := [.data, .data, .data, .data, .sentinel, .sentinel, .pinned], laidTests := true, laidLooks := .later }
def PrinterPrintsCardSaid : Prop := Claim7.holds Tryz.pinned (.plain (OpenSpec.ofChange printerPrintsSpec)) printerPrintsCard

/-- THE TIED CARD OF 'salchowlaw11.PrinterEqual'. -/
def printerEqualCard : Claim7 := { stood := { row := printerEqualRow, standIns := [], harness := (true, "91c84e077da0f3e7c89b9306fb49b5e0abee8c509dffb0b85426471aa589cd61"), looks := true }, kinds := [], alts := [], laidByText := true, laidKinds := [.data, .data, .data, .data, .sentinel, .sentinel, .pinned], laidTests := true, laidLooks := .later }
def PrinterEqualCardSaid : Prop := Claim7.holds Tryz.pinned (.plain (OpenSpec.ofChange printerEqualSpec)) printerEqualCard

/-- THE SECOND FORM's CARD OF 'salchowlaw11.PrinterLine'. -/
def printerLineUptoCard : Claim7 := { stood := { row := printerLineUptoRow, standIns := [], harness := (true, "91c84e077da0f3e7c89b9306fb49b5e0abee8c509dffb0b85426471aa589cd61"), looks := true }, kinds := [], alts := [], laidByText := true, laidKinds := [.data, .data, .data, .data, .sentinel, .sentinel, .pinned], laidTests := true, laidLooks := .later }
def PrinterLineUptoCardSaid : Prop := Claim7.holds Tryz.pinned (.plain (OpenSpec.upto printerLineSpec)) printerLineUptoCard

/-- THE SECOND FORM's CARD OF 'salchowlaw11.PrinterPrints'. -/
def printerPrintsUptoCard : Claim7 := { stood := { row := printerPrintsUptoRow, standIns := [], harness := (true, "91c84e077da0f3e7c89b9306fb49b5e0abee8c509dffb0b85426471aa589cd61"), looks := true }, kinds := [], alts := [], laidByText := true, laidKinds := [.data, .data, .data, .data, .sentinel, .sentinel, .pinned], laidTests := true, laidLooks := .later }
def PrinterPrintsUptoCardSaid : Prop := Claim7.holds Tryz.pinned (.plain (OpenSpec.upto printerPrintsSpec)) printerPrintsUptoCard

/-- THE SECOND FORM's CARD OF 'salchowlaw11.PrinterEqual'. -/
def printerEqualUptoCard : Claim7 := { stood := { row := printerEqualUptoRow, standIns := [], harness := (true, "91c84e077da0f3e7c89b9306fb49b5e0abee8c509dffb0b85426471aa589cd61"), looks := true }, kinds := [], alts := [], laidByText := true, laidKinds := [.data, .data, .data, .data, .sentinel, .sentinel, .pinned], laidTests := true, laidLooks := .later }
def PrinterEqualUptoCardSaid : Prop := Claim7.holds Tryz.pinned (.plain (OpenSpec.upto printerEqualSpec)) printerEqualUptoCard
end Rows
end Go.Proofs.YtkifdadhojbohaaGreatDoor

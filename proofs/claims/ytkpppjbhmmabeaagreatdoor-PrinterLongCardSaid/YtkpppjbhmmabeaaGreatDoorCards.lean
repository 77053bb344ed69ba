/-
  DERIVED. GIVEN WITH THE SEED: THE CARDS: each row of YtkpppjbhmmabeaaGreatDoorRows.lean that lists a variable, with what it lists TIED to the program's text (the seventh form; the later family's looks); each row that meets fmt, with fmt's text TOLD by the authors' own Lean function (tested against real Go, not proved from fmt's source: count such statements apart). THE CARD IS WHAT COUNTS. Prove the row's statement (the work); the ties are given (YtkpppjbhmmabeaaGreatDoorTie.lean); close each card by the builder's one call (the guide's Derived/Test/ToyasCard.lean, 'card_holds'). Laid BY PROGRAM, IN A SANDBOX (cutbox-door.mjs). By AI agents, Wed Nov 11 2026. No macro, syntax, notation, axiom, sorry.
-/
import Derived.Test.YtkpppjbhmmabeaaGreatDoorRows
import GoSem.ClaimSeven
namespace Go.Proofs.YtkpppjbhmmabeaaGreatDoor
namespace Rows

/-- THE TIED CARD OF 'framewiselaw27.PrinterLong'. -/
def printerLongCard : Claim7 := { stood := { row := printerLongRow, standIns := [], harness := (true, "57775c665d1bc83c6267b12711545a7ec1ead32c6f120d585874721f9e112a46"), looks := true }, kinds := [], alts := [], laidByText := true, laidKinds := [.data, .data, .data, .data, .sentinel, .sentinel, .pinned], laidTests := true, laidLooks := .later }
def PrinterLongCardSaid : Prop := Claim7.holds Tryz.pinned (.plain (OpenSpec.ofChange printerLongSpec)) printerLongCard

/-- THE TIED CARD OF 'framewiselaw27.PrinterModule'. -/
def printerModuleCard : Claim7 := { stood := { row := printerModuleRow, standIns := [], harness := (true, "57775c665d1bc83c6267b12711545a7ec1ead32c6f120d585874721f9e112a46"), looks := true }, kinds := [], alts := [], laidByText := true, laidKinds := [.data, .data, .data, .data, .sentinel, .sentinel, .pinned], laidTests := true, laidLooks := .later }
def PrinterModuleCardSaid : Prop := Claim7.holds Tryz.pinned (.plain (OpenSpec.ofChange printerModuleSpec)) printerModuleCard

/-- THE SECOND FORM's CARD OF 'framewiselaw27.PrinterLong'. -/
def printerLongUptoCard : Claim7 := { stood := { row := printerLongUptoRow, standIns := [], harness := (true, "57775c665d1bc83c6267b12711545a7ec1ead32c6f120d585874721f9e112a46"), looks := true }, kinds := [], alts := [], laidByText := true, laidKinds := [.data, .data, .data, .data, .sentinel, .sentinel, .pinned], laidTests := true, laidLooks := .later }
def PrinterLongUptoCardSaid : Prop := Claim7.holds Tryz.pinned (.plain (OpenSpec.upto printerLongSpec)) printerLongUptoCard

/-- THE SECOND FORM's CARD OF 'framewiselaw27.PrinterModule'. -/
def printerModuleUptoCard : Claim7 := { stood := { row := printerModuleUptoRow, standIns := [], harness := (true, "57775c665d1bc83c6267b12711545a7ec1ead32c6f120d585874721f9e112a46"), looks := true }, kinds := [], alts := [], laidByText := true, laidKinds := [.data, .data, .data, .data, .sentinel, .sentinel, .pinned], laidTests := true, laidLooks := .later }
def PrinterModuleUptoCardSaid : Prop := Claim7.holds Tryz.pinned (.plain (OpenSpec.upto printerModuleSpec)) printerModuleUptoCard
end Rows
end Go.Proofs.YtkpppjbhmmabeaaGreatDoor

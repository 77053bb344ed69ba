/-
  DERIVED. GIVEN WITH THE SEED: THE CARDS: each row of YtbpdlcdciffpjaaGreatDoorRows.lean that lists a variable, with what it lists TIED to the program's text (the seventh form; the later family's looks); each row that meets fmt, with fmt's text TOLD by the authors' own Lean function (tested against real Go, not proved from fmt's source: count such statements apart). THE CARD IS WHAT COUNTS. Prove the row's statement (the work); the ties are given (YtbpdlcdciffpjaaGreatDoorTie.lean); close each card by the builder's one call (the guide's Derived/Test/ToyasCard.lean, 'card_holds'). Laid BY PROGRAM, IN A SANDBOX (cutbox-door.mjs). By AI agents, Wed Nov 11 2026. No macro, syntax, notation, axiom, sorry.
-/
import Derived.Test.YtbpdlcdciffpjaaGreatDoorRows
import GoSem.ClaimSeven
namespace Go.Proofs.YtbpdlcdciffpjaaGreatDoor
namespace Rows

/-- THE TIED CARD OF 'framewiselaw27.PrinterParens'. -/
def printerParensCard : Claim7 := { stood := { row := printerParensRow, standIns := [], harness := (true, "363b6ae3bb876a8c4958ef63049742faaa1b391758f73535e4f5b8605af66e63"), looks := true }, kinds := [], alts := [], laidByText := true, laidKinds := [.data, .data, .data, .sentinel, .sentinel], laidTests := true, laidLooks := .later }
def PrinterParensCardSaid : Prop := Claim7.holds Tryz.pinned (.plain (OpenSpec.ofChange printerParensSpec)) printerParensCard

/-- THE SECOND FORM's CARD OF 'framewiselaw27.PrinterParens'. -/
def printerParensUptoCard : Claim7 := { stood := { row := printerParensUptoRow, standIns := [], harness := (true, "363b6ae3bb876a8c4958ef63049742faaa1b391758f73535e4f5b8605af66e63"), looks := true }, kinds := [], alts := [], laidByText := true, laidKinds := [.data, .data, .data, .sentinel, .sentinel], laidTests := true, laidLooks := .later }
def PrinterParensUptoCardSaid : Prop := Claim7.holds Tryz.pinned (.plain (OpenSpec.upto printerParensSpec)) printerParensUptoCard
end Rows
end Go.Proofs.YtbpdlcdciffpjaaGreatDoor

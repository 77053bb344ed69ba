/-
  DERIVED. GIVEN WITH THE SEED: THE CARDS: each row of YtbfjgcjjaoaaaaaGreatDoorRows.lean that lists a variable, with what it lists TIED to the program's text (the seventh form; the later family's looks); each row that meets fmt, with fmt's text TOLD by the authors' own Lean function (tested against real Go, not proved from fmt's source: count such statements apart). THE CARD IS WHAT COUNTS. Prove the row's statement (the work); the ties are given (YtbfjgcjjaoaaaaaGreatDoorTie.lean); close each card by the builder's one call (the guide's Derived/Test/ToyasCard.lean, 'card_holds'). Laid BY PROGRAM, IN A SANDBOX (cutbox-door.mjs). By AI agents, Wed Nov 11 2026. No macro, syntax, notation, axiom, sorry.
-/
import Derived.Test.YtbfjgcjjaoaaaaaGreatDoorRows
import GoSem.ClaimSeven
namespace Go.Proofs.YtbfjgcjjaoaaaaaGreatDoor
namespace Rows

/-- THE TIED CARD OF 'framewiselaw27.PrinterTerm'. -/
def printerTermCard : Claim7 := { stood := { row := printerTermRow, standIns := [], harness := (true, "5381219d3fa2814aa190714c35c88188eb89181143c46869de4f2138dc0710fa"), looks := true }, kinds := [], alts := [], laidByText := true, laidKinds := [.data, .data, .data, .sentinel, .sentinel], laidTests := true, laidLooks := .later }
def PrinterTermCardSaid : Prop := Claim7.holds Tryz.pinned (.plain (OpenSpec.ofChange printerTermSpec)) printerTermCard

/-- THE TIED CARD OF 'framewiselaw27.PrinterTokens'. -/
def printerTokensCard : Claim7 := { stood := { row := printerTokensRow, standIns := [], harness := (true, "5381219d3fa2814aa190714c35c88188eb89181143c46869de4f2138dc0710fa"), looks := true }, kinds := [], alts := [], laidByText := true, laidKinds := [.data, .data, .data, .sentinel, .sentinel], laidTests := true, laidLooks := .later }
def PrinterTokensCardSaid : Prop := Claim7.holds Tryz.pinned (.plain (OpenSpec.ofChange printerTokensSpec)) printerTokensCard

/-- THE SECOND FORM's CARD OF 'framewiselaw27.PrinterTerm'. -/
def printerTermUptoCard : Claim7 := { stood := { row := printerTermUptoRow, standIns := [], harness := (true, "5381219d3fa2814aa190714c35c88188eb89181143c46869de4f2138dc0710fa"), looks := true }, kinds := [], alts := [], laidByText := true, laidKinds := [.data, .data, .data, .sentinel, .sentinel], laidTests := true, laidLooks := .later }
def PrinterTermUptoCardSaid : Prop := Claim7.holds Tryz.pinned (.plain (OpenSpec.upto printerTermSpec)) printerTermUptoCard

/-- THE SECOND FORM's CARD OF 'framewiselaw27.PrinterTokens'. -/
def printerTokensUptoCard : Claim7 := { stood := { row := printerTokensUptoRow, standIns := [], harness := (true, "5381219d3fa2814aa190714c35c88188eb89181143c46869de4f2138dc0710fa"), looks := true }, kinds := [], alts := [], laidByText := true, laidKinds := [.data, .data, .data, .sentinel, .sentinel], laidTests := true, laidLooks := .later }
def PrinterTokensUptoCardSaid : Prop := Claim7.holds Tryz.pinned (.plain (OpenSpec.upto printerTokensSpec)) printerTokensUptoCard
end Rows
end Go.Proofs.YtbfjgcjjaoaaaaaGreatDoor

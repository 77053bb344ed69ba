/-
  DERIVED. GIVEN WITH THE SEED: THE CARDS: each row of YtjndoclcicfbcaaGreatDoorRows.lean that lists a variable, with what it lists TIED to the program's text (the seventh form; the later family's looks); each row that meets fmt, with fmt's text TOLD by the authors' own Lean function (tested against real Go, not proved from fmt's source: count such statements apart). THE CARD IS WHAT COUNTS. Prove the row's statement (the work); the ties are given (YtjndoclcicfbcaaGreatDoorTie.lean); close each card by the builder's one call (the guide's Derived/Test/ToyasCard.lean, 'card_holds'). Laid BY PROGRAM, IN A SANDBOX (cutbox-door.mjs). By AI agents, Wed Nov 11 2026. No macro, syntax, notation, axiom, sorry.
-/
import Derived.Test.YtjndoclcicfbcaaGreatDoorRows
import GoSem.ClaimSeven
namespace Go.Proofs.YtjndoclcicfbcaaGreatDoor
namespace Rows

/-- THE TIED CARD OF 'framewiselaw26.ParserExpr'. -/
def parserExprCard : Claim7 := { stood := { row := parserExprRow, standIns := [], harness := (true, "6cb167a7a86e83b41031b58735cb75b2f58f3d927499a8cd6cb2b3d786c8c730"), looks := true }, kinds := [], alts := [], laidByText := true, laidKinds := [.data, .data, .data, .data, .sentinel, .sentinel, .pinned], laidTests := true, laidLooks := .later }
def ParserExprCardSaid : Prop := Claim7.holds Tryz.pinned (.plain (OpenSpec.ofChange parserExprSpec)) parserExprCard

/-- THE SECOND FORM's CARD OF 'framewiselaw26.ParserExpr'. -/
def parserExprUptoCard : Claim7 := { stood := { row := parserExprUptoRow, standIns := [], harness := (true, "6cb167a7a86e83b41031b58735cb75b2f58f3d927499a8cd6cb2b3d786c8c730"), looks := true }, kinds := [], alts := [], laidByText := true, laidKinds := [.data, .data, .data, .data, .sentinel, .sentinel, .pinned], laidTests := true, laidLooks := .later }
def ParserExprUptoCardSaid : Prop := Claim7.holds Tryz.pinned (.plain (OpenSpec.upto parserExprSpec)) parserExprUptoCard
end Rows
end Go.Proofs.YtjndoclcicfbcaaGreatDoor

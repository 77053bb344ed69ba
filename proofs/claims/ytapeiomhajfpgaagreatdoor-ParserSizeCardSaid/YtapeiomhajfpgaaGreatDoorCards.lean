/-
  DERIVED. GIVEN WITH THE SEED: THE CARDS: each row of YtapeiomhajfpgaaGreatDoorRows.lean that lists a variable, with what it lists TIED to the program's text (the seventh form; the later family's looks); each row that meets fmt, with fmt's text TOLD by the authors' own Lean function (tested against real Go, not proved from fmt's source: count such statements apart). THE CARD IS WHAT COUNTS. Prove the row's statement (the work); the ties are given (YtapeiomhajfpgaaGreatDoorTie.lean); close each card by the builder's one call (the guide's Derived/Test/ToyasCard.lean, 'card_holds'). Laid BY PROGRAM, IN A SANDBOX (cutbox-door.mjs). By AI agents, Wed Nov 11 2026. No macro, syntax, notation, axiom, sorry.
-/
import Derived.Test.YtapeiomhajfpgaaGreatDoorRows
import GoSem.ClaimSeven
namespace Go.Proofs.YtapeiomhajfpgaaGreatDoor
namespace Rows

/-- THE TIED CARD OF 'framewiselaw26.ParserExpr'. -/
def parserExprCard : Claim7 := { stood := { row := parserExprRow, standIns := [], harness := (true, "9c78fbf9fd679d5e8f048d0d7075f936dcfe5fa1ac14b9f13bd05e9fa7a65879"), looks := true }, kinds := [], alts := [], laidByText := true, laidKinds := [.data, .data, .data, .data, .sentinel, .sentinel, .pinned], laidTests := true, laidLooks := .later }
def ParserExprCardSaid : Prop := Claim7.holds Tryz.pinned (.plain (OpenSpec.ofChange parserExprSpec)) parserExprCard

/-- THE TIED CARD OF 'framewiselaw26.ParserModule'. -/
def parserModuleCard : Claim7 := { stood := { row := parserModuleRow, standIns := [], harness := (true, "9c78fbf9fd679d5e8f048d0d7075f936dcfe5fa1ac14b9f13bd05e9fa7a65879"), looks := true }, kinds := [], alts := [], laidByText := true, laidKinds := [.data, .data, .data, .data, .sentinel, .sentinel, .pinned], laidTests := true, laidLooks := .later }
def ParserModuleCardSaid : Prop := Claim7.holds Tryz.pinned (.plain (OpenSpec.ofChange parserModuleSpec)) parserModuleCard

/-- THE TIED CARD OF 'framewiselaw26.ParserGreat'. -/
def parserGreatCard : Claim7 := { stood := { row := parserGreatRow, standIns := [], harness := (true, "9c78fbf9fd679d5e8f048d0d7075f936dcfe5fa1ac14b9f13bd05e9fa7a65879"), looks := true }, kinds := [], alts := [], laidByText := true, laidKinds := [.data, .data, .data, .data, .sentinel, .sentinel, .pinned], laidTests := true, laidLooks := .later }
def ParserGreatCardSaid : Prop := Claim7.holds Tryz.pinned (.plain (OpenSpec.ofChange parserGreatSpec)) parserGreatCard

/-- THE TIED CARD OF 'framewiselaw26.ParserSize'. -/
def parserSizeCard : Claim7 := { stood := { row := parserSizeRow, standIns := [], harness := (true, "9c78fbf9fd679d5e8f048d0d7075f936dcfe5fa1ac14b9f13bd05e9fa7a65879"), looks := true }, kinds := [], alts := [], laidByText := true, laidKinds := [.data, .data, .data, .data, .sentinel, .sentinel, .pinned], laidTests := true, laidLooks := .later }
def ParserSizeCardSaid : Prop := Claim7.holds Tryz.pinned (.plain (OpenSpec.ofChange parserSizeSpec)) parserSizeCard

/-- THE SECOND FORM's CARD OF 'framewiselaw26.ParserExpr'. -/
def parserExprUptoCard : Claim7 := { stood := { row := parserExprUptoRow, standIns := [], harness := (true, "9c78fbf9fd679d5e8f048d0d7075f936dcfe5fa1ac14b9f13bd05e9fa7a65879"), looks := true }, kinds := [], alts := [], laidByText := true, laidKinds := [.data, .data, .data, .data, .sentinel, .sentinel, .pinned], laidTests := true, laidLooks := .later }
def ParserExprUptoCardSaid : Prop := Claim7.holds Tryz.pinned (.plain (OpenSpec.upto parserExprSpec)) parserExprUptoCard

/-- THE SECOND FORM's CARD OF 'framewiselaw26.ParserModule'. -/
def parserModuleUptoCard : Claim7 := { stood := { row := parserModuleUptoRow, standIns := [], harness := (true, "9c78fbf9fd679d5e8f048d0d7075f936dcfe5fa1ac14b9f13bd05e9fa7a65879"), looks := true }, kinds := [], alts := [], laidByText := true, laidKinds := [.data, .data, .data, .data, .sentinel, .sentinel, .pinned], laidTests := true, laidLooks := .later }
def ParserModuleUptoCardSaid : Prop := Claim7.holds Tryz.pinned (.plain (OpenSpec.upto parserModuleSpec)) parserModuleUptoCard

/-- THE SECOND FORM's CARD OF 'framewiselaw26.ParserGreat'. -/
def parserGreatUptoCard : Claim7 := { stood := { row := parserGreatUptoRow, standIns := [], harness := (true, "9c78fbf9fd679d5e8f048d0d7075f936dcfe5fa1ac14b9f13bd05e9fa7a65879"), looks := true }, kinds := [], alts := [], laidByText := true, laidKinds := [.data, .data, .data, .data, .sentinel, .sentinel, .pinned], laidTests := true, laidLooks := .later }
def ParserGreatUptoCardSaid : Prop := Claim7.holds Tryz.pinned (.plain (OpenSpec.upto parserGreatSpec)) parserGreatUptoCard

/-- THE SECOND FORM's CARD OF 'framewiselaw26.ParserSize'. -/
def parserSizeUptoCard : Claim7 := { stood := { row := parserSizeUptoRow, standIns := [], harness := (true, "9c78fbf9fd679d5e8f048d0d7075f936dcfe5fa1ac14b9f13bd05e9fa7a65879"), looks := true }, kinds := [], alts := [], laidByText := true, laidKinds := [.data, .data, .data, .data, .sentinel, .sentinel, .pinned], laidTests := true, laidLooks := .later }
def ParserSizeUptoCardSaid : Prop := Claim7.holds Tryz.pinned (.plain (OpenSpec.upto parserSizeSpec)) parserSizeUptoCard
end Rows
end Go.Proofs.YtapeiomhajfpgaaGreatDoor

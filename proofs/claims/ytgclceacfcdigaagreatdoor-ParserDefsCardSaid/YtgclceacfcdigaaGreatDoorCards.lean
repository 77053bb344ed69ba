/-
  DERIVED. GIVEN WITH THE SEED: THE CARDS: each row of YtgclceacfcdigaaGreatDoorRows.lean that lists a variable, with what it lists TIED to the program's text (the seventh form; the later family's looks); each row that meets fmt, with fmt's text TOLD by the authors' own Lean function (tested against real Go, not proved from fmt's source: count such statements apart). THE CARD IS WHAT COUNTS. Prove the row's statement (the work); the ties are given (YtgclceacfcdigaaGreatDoorTie.lean); close each card by the builder's one call (the guide's Derived/Test/ToyasCard.lean, 'card_holds'). Laid BY PROGRAM, IN A SANDBOX (cutbox-door.mjs). By AI agents, Wed Nov 11 2026. No macro, syntax, notation, axiom, sorry.
-/
import Derived.Test.YtgclceacfcdigaaGreatDoorRows
import GoSem.ClaimSeven
namespace Go.Proofs.YtgclceacfcdigaaGreatDoor
namespace Rows

/-- THE TIED CARD OF 'framewiselaw26.ParserLevels'. -/
def parserLevelsCard : Claim7 := { stood := { row := parserLevelsRow, standIns := [], harness := (true, "aeb0350652a575962ec5ac69e4383fc84f60011b27c22d259ca32a79ce0adeff"), looks := true }, kinds := [], alts := [], laidByText := true, laidKinds := [.data, .data, .data, .data, .sentinel, .sentinel, .pinned], laidTests := true, laidLooks := .later }
def ParserLevelsCardSaid : Prop := Claim7.holds Tryz.pinned (.plain (OpenSpec.ofChange parserLevelsSpec)) parserLevelsCard

/-- THE TIED CARD OF 'framewiselaw26.ParserParens'. -/
def parserParensCard : Claim7 := { stood := { row := parserParensRow, standIns := [], harness := (true, "aeb0350652a575962ec5ac69e4383fc84f60011b27c22d259ca32a79ce0adeff"), looks := true }, kinds := [], alts := [], laidByText := true, laidKinds := [.data, .data, .data, .data, .sentinel, .sentinel, .pinned], laidTests := true, laidLooks := .later }
def ParserParensCardSaid : Prop := Claim7.holds Tryz.pinned (.plain (OpenSpec.ofChange parserParensSpec)) parserParensCard

/-- THE TIED CARD OF 'framewiselaw26.ParserBlanks'. -/
def parserBlanksCard : Claim7 := { stood := { row := parserBlanksRow, standIns := [], harness := (true, "aeb0350652a575962ec5ac69e4383fc84f60011b27c22d259ca32a79ce0adeff"), looks := true }, kinds := [], alts := [], laidByText := true, laidKinds := [.data, .data, .data, .data, .sentinel, .sentinel, .pinned], laidTests := true, laidLooks := .later }
def ParserBlanksCardSaid : Prop := Claim7.holds Tryz.pinned (.plain (OpenSpec.ofChange parserBlanksSpec)) parserBlanksCard

/-- THE TIED CARD OF 'framewiselaw26.ParserValid'. -/
def parserValidCard : Claim7 := { stood := { row := parserValidRow, standIns := [], harness := (true, "aeb0350652a575962ec5ac69e4383fc84f60011b27c22d259ca32a79ce0adeff"), looks := true }, kinds := [], alts := [], laidByText := true, laidKinds := [.data, .data, .data, .data, .sentinel, .sentinel, .pinned], laidTests := true, laidLooks := .later }
def ParserValidCardSaid : Prop := Claim7.holds Tryz.pinned (.plain (OpenSpec.ofChange parserValidSpec)) parserValidCard

/-- THE TIED CARD OF 'framewiselaw26.ParserErrors'. -/
def parserErrorsCard : Claim7 := { stood := { row := parserErrorsRow, standIns := [], harness := (true, "aeb0350652a575962ec5ac69e4383fc84f60011b27c22d259ca32a79ce0adeff"), looks := true }, kinds := [], alts := [], laidByText := true, laidKinds := [.data, .data, .data, .data, .sentinel, .sentinel, .pinned], laidTests := true, laidLooks := .later }
def ParserErrorsCardSaid : Prop := Claim7.holds Tryz.pinned (.plain (OpenSpec.ofChange parserErrorsSpec)) parserErrorsCard

/-- THE TIED CARD OF 'framewiselaw26.ParserDefs'. -/
def parserDefsCard : Claim7 := { stood := { row := parserDefsRow, standIns := [], harness := (true, "aeb0350652a575962ec5ac69e4383fc84f60011b27c22d259ca32a79ce0adeff"), looks := true }, kinds := [], alts := [], laidByText := true, laidKinds := [.data, .data, .data, .data, .sentinel, .sentinel, .pinned], laidTests := true, laidLooks := .later }
def ParserDefsCardSaid : Prop := Claim7.holds Tryz.pinned (.plain (OpenSpec.ofChange parserDefsSpec)) parserDefsCard

/-- THE SECOND FORM's CARD OF 'framewiselaw26.ParserLevels'. -/
def parserLevelsUptoCard : Claim7 := { stood := { row := parserLevelsUptoRow, standIns := [], harness := (true, "aeb0350652a575962ec5ac69e4383fc84f60011b27c22d259ca32a79ce0adeff"), looks := true }, kinds := [], alts := [], laidByText := true, laidKinds := [.data, .data, .data, .data, .sentinel, .sentinel, .pinned], laidTests := true, laidLooks := .later }
def ParserLevelsUptoCardSaid : Prop := Claim7.holds Tryz.pinned (.plain (OpenSpec.upto parserLevelsSpec)) parserLevelsUptoCard

/-- THE SECOND FORM's CARD OF 'framewiselaw26.ParserParens'. -/
def parserParensUptoCard : Claim7 := { stood := { row := parserParensUptoRow, standIns := [], harness := (true, "aeb0350652a575962ec5ac69e4383fc84f60011b27c22d259ca32a79ce0adeff"), looks := true }, kinds := [], alts := [], laidByText := true, laidKinds := [.data, .data, .data, .data, .sentinel, .sentinel, .pinned], laidTests := true, laidLooks := .later }
def ParserParensUptoCardSaid : Prop := Claim7.holds Tryz.pinned (.plain (OpenSpec.upto parserParensSpec)) parserParensUptoCard

/-- THE SECOND FORM's CARD OF 'framewiselaw26.ParserBlanks'. -/
def parserBlanksUptoCard : Claim7 := { stood := { row := parserBlanksUptoRow, standIns := [], harness := (true, "aeb0350652a575962ec5ac69e4383fc84f60011b27c22d259ca32a79ce0adeff"), looks := true }, kinds := [], alts := [], laidByText := true, laidKinds := [.data, .data, .data, .data, .sentinel, .sentinel, .pinned], laidTests := true, laidLooks := .later }
def ParserBlanksUptoCardSaid : Prop := Claim7.holds Tryz.pinned (.plain (OpenSpec.upto parserBlanksSpec)) parserBlanksUptoCard

/-- THE SECOND FORM's CARD OF 'framewiselaw26.ParserValid'. -/
def parserValidUptoCard : Claim7 := { stood := { row := parserValidUptoRow, standIns := [], harness := (true, "aeb0350652a575962ec5ac69e4383fc84f60011b27c22d259ca32a79ce0adeff"), looks := true }, kinds := [], alts := [], laidByText := true, laidKinds := [.data, .data, .data, .data, .sentinel, .sentinel, .pinned], laidTests := true, laidLooks := .later }
def ParserValidUptoCardSaid : Prop := Claim7.holds Tryz.pinned (.plain (OpenSpec.upto parserValidSpec)) parserValidUptoCard

/-- THE SECOND FORM's CARD OF 'framewiselaw26.ParserErrors'. -/
def parserErrorsUptoCard : Claim7 := { stood := { row := parserErrorsUptoRow, standIns := [], harness := (true, "aeb0350652a575962ec5ac69e4383fc84f60011b27c22d259ca32a79ce0adeff"), looks := true }, kinds := [], alts := [], laidByText := true, laidKinds := [.data, .data, .data, .data, .sentinel, .sentinel, .pinned], laidTests := true, laidLooks := .later }
def ParserErrorsUptoCardSaid : Prop := Claim7.holds Tryz.pinned (.plain (OpenSpec.upto parserErrorsSpec)) parserErrorsUptoCard

/-- THE SECOND FORM's CARD OF 'framewiselaw26.ParserDefs'. -/
def parserDefsUptoCard : Claim7 := { stood := { row := parserDefsUptoRow, standIns := [], harness := (true, "aeb0350652a575962ec5ac69e4383fc84f60011b27c22d259ca32a79ce0adeff"), looks := true }, kinds := [], alts := [], laidByText := true, laidKinds := [.data, .data, .data, .data, .sentinel, .sentinel, .pinned], laidTests := true, laidLooks := .later }
def ParserDefsUptoCardSaid : Prop := Claim7.holds Tryz.pinned (.plain (OpenSpec.upto parserDefsSpec)) parserDefsUptoCard
end Rows
end Go.Proofs.YtgclceacfcdigaaGreatDoor

/-
  DERIVED. GIVEN WITH THE SEED: THE CARDS: each row of YtgdebdgkofkeeaaGreatDoorRows.lean that lists a variable, with what it lists TIED to the program's text (the seventh form; the later family's looks); each row that meets fmt, with fmt's text TOLD by the authors' own Lean function (tested against real Go, not proved from fmt's source: count such statements apart). THE CARD IS WHAT COUNTS. Prove the row's statement (the work); the ties are given (YtgdebdgkofkeeaaGreatDoorTie.lean); close each card by the builder's one call (the guide's Derived/Test/ToyasCard.lean, 'card_holds'). Laid BY PROGRAM, IN A SANDBOX (cutbox-door.mjs). By AI agents, Wed Nov 11 2026. No macro, syntax, notation, axiom, sorry.
-/
import Derived.Test.YtgdebdgkofkeeaaGreatDoorRows
import GoSem.ClaimSeven
namespace Go.Proofs.YtgdebdgkofkeeaaGreatDoor
namespace Rows

/-- THE TIED CARD OF 'framewiselaw25.TermAlpha'. -/
def termAlphaCard : Claim7 := { stood := { row := termAlphaRow, standIns := [], harness := (true, "cd9085f510679da9522cf01262a676ccc520d7c40ec0cdf1265a30fc4981aa49"), looks := true }, kinds := [], alts := [], laidByText := true, laidKinds := [.data, .data, .data, .sentinel, .sentinel], laidTests := true, laidLooks := .later }
def TermAlphaCardSaid : Prop := Claim7.holds Tryz.pinned (.plain (OpenSpec.ofChange termAlphaSpec)) termAlphaCard

/-- THE TIED CARD OF 'framewiselaw25.TermValid'. -/
def termValidCard : Claim7 := { stood := { row := termValidRow, standIns := [], harness := (true, "cd9085f510679da9522cf01262a676ccc520d7c40ec0cdf1265a30fc4981aa49"), looks := true }, kinds := [], alts := [], laidByText := true, laidKinds := [.data, .data, .data, .sentinel, .sentinel], laidTests := true, laidLooks := .later }
def TermValidCardSaid : Prop := Claim7.holds Tryz.pinned (.plain (OpenSpec.ofChange termValidSpec)) termValidCard

/-- THE TIED CARD OF 'framewiselaw25.TermGreat'. -/
def termGreatCard : Claim7 := { stood := { row := termGreatRow, standIns := [], harness := (true, "cd9085f510679da9522cf01262a676ccc520d7c40ec0cdf1265a30fc4981aa49"), looks := true }, kinds := [], alts := [], laidByText := true, laidKinds := [.data, .data, .data, .sentinel, .sentinel], laidTests := true, laidLooks := .later }
def TermGreatCardSaid : Prop := Claim7.holds Tryz.pinned (.plain (OpenSpec.ofChange termGreatSpec)) termGreatCard

/-- THE TIED CARD OF 'framewiselaw25.TermStandard'. -/
def termStandardCard : Claim7 := { stood := { row := termStandardRow, standIns := [], harness := (true, "cd9085f510679da9522cf01262a676ccc520d7c40ec0cdf1265a30fc4981aa49"), looks := true }, kinds := [], alts := [], laidByText := true, laidKinds := [.data, .data, .data, .sentinel, .sentinel], laidTests := true, laidLooks := .later }
def TermStandardCardSaid : Prop := Claim7.holds Tryz.pinned (.plain (OpenSpec.ofChange termStandardSpec)) termStandardCard

/-- THE TIED CARD OF 'framewiselaw25.TermNodes'. -/
def termNodesCard : Claim7 := { stood := { row := termNodesRow, standIns := [], harness := (true, "cd9085f510679da9522cf01262a676ccc520d7c40ec0cdf1265a30fc4981aa49"), looks := true }, kinds := [], alts := [], laidByText := true, laidKinds := [.data, .data, .data, .sentinel, .sentinel], laidTests := true, laidLooks := .later }
def TermNodesCardSaid : Prop := Claim7.holds Tryz.pinned (.plain (OpenSpec.ofChange termNodesSpec)) termNodesCard

/-- THE TIED CARD OF 'framewiselaw25.TermUnion'. -/
def termUnionCard : Claim7 := { stood := { row := termUnionRow, standIns := [], harness := (true, "cd9085f510679da9522cf01262a676ccc520d7c40ec0cdf1265a30fc4981aa49"), looks := true }, kinds := [], alts := [], laidByText := true, laidKinds := [.data, .data, .data, .sentinel, .sentinel], laidTests := true, laidLooks := .later }
def TermUnionCardSaid : Prop := Claim7.holds Tryz.pinned (.plain (OpenSpec.ofChange termUnionSpec)) termUnionCard

/-- THE TIED CARD OF 'framewiselaw25.TermReplace'. -/
def termReplaceCard : Claim7 := { stood := { row := termReplaceRow, standIns := [], harness := (true, "cd9085f510679da9522cf01262a676ccc520d7c40ec0cdf1265a30fc4981aa49"), looks := true }, kinds := [], alts := [], laidByText := true, laidKinds := [.data, .data, .data, .sentinel, .sentinel], laidTests := true, laidLooks := .later }
def TermReplaceCardSaid : Prop := Claim7.holds Tryz.pinned (.plain (OpenSpec.ofChange termReplaceSpec)) termReplaceCard

/-- THE TIED CARD OF 'framewiselaw25.TermNames'. -/
def termNamesCard : Claim7 := { stood := { row := termNamesRow, standIns := [], harness := (true, "cd9085f510679da9522cf01262a676ccc520d7c40ec0cdf1265a30fc4981aa49"), looks := true }, kinds := [], alts := [], laidByText := true, laidKinds := [.data, .data, .data, .sentinel, .sentinel], laidTests := true, laidLooks := .later }
def TermNamesCardSaid : Prop := Claim7.holds Tryz.pinned (.plain (OpenSpec.ofChange termNamesSpec)) termNamesCard

/-- THE TIED CARD OF 'framewiselaw25.TermParts'. -/
def termPartsCard : Claim7 := { stood := { row := termPartsRow, standIns := [], harness := (true, "cd9085f510679da9522cf01262a676ccc520d7c40ec0cdf1265a30fc4981aa49"), looks := true }, kinds := [], alts := [], laidByText := true, laidKinds := [.data, .data, .data, .sentinel, .sentinel], laidTests := true, laidLooks := .later }
def TermPartsCardSaid : Prop := Claim7.holds Tryz.pinned (.plain (OpenSpec.ofChange termPartsSpec)) termPartsCard

/-- THE SECOND FORM's CARD OF 'framewiselaw25.TermAlpha'. -/
def termAlphaUptoCard : Claim7 := { stood := { row := termAlphaUptoRow, standIns := [], harness := (true, "cd9085f510679da9522cf01262a676ccc520d7c40ec0cdf1265a30fc4981aa49"), looks := true }, kinds := [], alts := [], laidByText := true, laidKinds := [.data, .data, .data, .sentinel, .sentinel], laidTests := true, laidLooks := .later }
def TermAlphaUptoCardSaid : Prop := Claim7.holds Tryz.pinned (.plain (OpenSpec.upto termAlphaSpec)) termAlphaUptoCard

/-- THE SECOND FORM's CARD OF 'framewiselaw25.TermValid'. -/
def termValidUptoCard : Claim7 := { stood := { row := termValidUptoRow, standIns := [], harness := (true, "cd9085f510679da9522cf01262a676ccc520d7c40ec0cdf1265a30fc4981aa49"), looks := true }, kinds := [], alts := [], laidByText := true, laidKinds := [.data, .data, .data, .sentinel, .sentinel], laidTests := true, laidLooks := .later }
def TermValidUptoCardSaid : Prop := Claim7.holds Tryz.pinned (.plain (OpenSpec.upto termValidSpec)) termValidUptoCard

/-- THE SECOND FORM's CARD OF 'framewiselaw25.TermGreat'. -/
def termGreatUptoCard : Claim7 := { stood := { row := termGreatUptoRow, standIns := [], harness := (true, "cd9085f510679da9522cf01262a676ccc520d7c40ec0cdf1265a30fc4981aa49"), looks := true }, kinds := [], alts := [], laidByText := true, laidKinds := [.data, .data, .data, .sentinel, .sentinel], laidTests := true, laidLooks := .later }
def TermGreatUptoCardSaid : Prop := Claim7.holds Tryz.pinned (.plain (OpenSpec.upto termGreatSpec)) termGreatUptoCard

/-- THE SECOND FORM's CARD OF 'framewiselaw25.TermStandard'. -/
def termStandardUptoCard : Claim7 := { stood := { row := termStandardUptoRow, standIns := [], harness := (true, "cd9085f510679da9522cf01262a676ccc520d7c40ec0cdf1265a30fc4981aa49"), looks := true }, kinds := [], alts := [], laidByText := true, laidKinds := [.data, .data, .data, .sentinel, .sentinel], laidTests := true, laidLooks := .later }
def TermStandardUptoCardSaid : Prop := Claim7.holds Tryz.pinned (.plain (OpenSpec.upto termStandardSpec)) termStandardUptoCard

/-- THE SECOND FORM's CARD OF 'framewiselaw25.TermNodes'. -/
def termNodesUptoCard : Claim7 := { stood := { row := termNodesUptoRow, standIns := [], harness := (true, "cd9085f510679da9522cf01262a676ccc520d7c40ec0cdf1265a30fc4981aa49"), looks := true }, kinds := [], alts := [], laidByText := true, laidKinds := [.data, .data, .data, .sentinel, .sentinel], laidTests := true, laidLooks := .later }
def TermNodesUptoCardSaid : Prop := Claim7.holds Tryz.pinned (.plain (OpenSpec.upto termNodesSpec)) termNodesUptoCard

/-- THE SECOND FORM's CARD OF 'framewiselaw25.TermUnion'. -/
def termUnionUptoCard : Claim7 := { stood := { row := termUnionUptoRow, standIns := [], harness := (true, "cd9085f510679da9522cf01262a676ccc520d7c40ec0cdf1265a30fc4981aa49"), looks := true }, kinds := [], alts := [], laidByText := true, laidKinds := [.data, .data, .data, .sentinel, .sentinel], laidTests := true, laidLooks := .later }
def TermUnionUptoCardSaid : Prop := Claim7.holds Tryz.pinned (.plain (OpenSpec.upto termUnionSpec)) termUnionUptoCard

/-- THE SECOND FORM's CARD OF 'framewiselaw25.TermReplace'. -/
def termReplaceUptoCard : Claim7 := { stood := { row := termReplaceUptoRow, standIns := [], harness := (true, "cd9085f510679da9522cf01262a676ccc520d7c40ec0cdf1265a30fc4981aa49"), looks := true }, kinds := [], alts := [], laidByText := true, laidKinds := [.data, .data, .data, .sentinel, .sentinel], laidTests := true, laidLooks := .later }
def TermReplaceUptoCardSaid : Prop := Claim7.holds Tryz.pinned (.plain (OpenSpec.upto termReplaceSpec)) termReplaceUptoCard

/-- THE SECOND FORM's CARD OF 'framewiselaw25.TermNames'. -/
def termNamesUptoCard : Claim7 := { stood := { row := termNamesUptoRow, standIns := [], harness := (true, "cd9085f510679da9522cf01262a676ccc520d7c40ec0cdf1265a30fc4981aa49"), looks := true }, kinds := [], alts := [], laidByText := true, laidKinds := [.data, .data, .data, .sentinel, .sentinel], laidTests := true, laidLooks := .later }
def TermNamesUptoCardSaid : Prop := Claim7.holds Tryz.pinned (.plain (OpenSpec.upto termNamesSpec)) termNamesUptoCard

/-- THE SECOND FORM's CARD OF 'framewiselaw25.TermParts'. -/
def termPartsUptoCard : Claim7 := { stood := { row := termPartsUptoRow, standIns := [], harness := (true, "cd9085f510679da9522cf01262a676ccc520d7c40ec0cdf1265a30fc4981aa49"), looks := true }, kinds := [], alts := [], laidByText := true, laidKinds := [.data, .data, .data, .sentinel, .sentinel], laidTests := true, laidLooks := .later }
def TermPartsUptoCardSaid : Prop := Claim7.holds Tryz.pinned (.plain (OpenSpec.upto termPartsSpec)) termPartsUptoCard
end Rows
end Go.Proofs.YtgdebdgkofkeeaaGreatDoor

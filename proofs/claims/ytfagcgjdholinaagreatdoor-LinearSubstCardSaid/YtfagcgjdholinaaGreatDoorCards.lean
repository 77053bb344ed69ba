/-
  DERIVED. GIVEN WITH THE SEED: THE CARDS: each row of YtfagcgjdholinaaGreatDoorRows.lean that lists a variable, with what it lists TIED to the program's text (the seventh form; the later family's looks); each row that meets fmt, with fmt's text TOLD by the authors' own Lean function (tested against real Go, not proved from fmt's source: count such statements apart). THE CARD IS WHAT COUNTS. Prove the row's statement (the work); the ties are given (YtfagcgjdholinaaGreatDoorTie.lean); close each card by the builder's one call (the guide's Derived/Test/ToyasCard.lean, 'card_holds'). Laid BY PROGRAM, IN A SANDBOX (cutbox-door.mjs). By AI agents, Wed Nov 11 2026. No macro, syntax, notation, axiom, sorry.
-/
import Derived.Test.YtfagcgjdholinaaGreatDoorRows
import GoSem.ClaimSeven
namespace Go.Proofs.YtfagcgjdholinaaGreatDoor
namespace Rows

/-- THE TIED CARD OF 'framewiselaw07.CertificateCheck'. -/
def certificateCheckCard : Claim7 := { stood := { row := certificateCheckRow, standIns := [], harness := (true, "3c717529aa77d657e15210f5ca0d3b61e43f2adc5b1a0cfa4ba1c685e36e1e96"), looks := true }, kinds := [], alts := [], laidByText := true, laidKinds := [.data, .data, .data, .sentinel, .sentinel], laidTests := true, laidLooks := .later }
def CertificateCheckCardSaid : Prop := Claim7.holds Tryz.pinned (.plain (OpenSpec.ofChange certificateCheckSpec)) certificateCheckCard

/-- THE TIED CARD OF 'framewiselaw07.CertificateProves'. -/
def certificateProvesCard : Claim7 := { stood := { row := certificateProvesRow, standIns := [], harness := (true, "3c717529aa77d657e15210f5ca0d3b61e43f2adc5b1a0cfa4ba1c685e36e1e96"), looks := true }, kinds := [], alts := [], laidByText := true, laidKinds := [.data, .data, .data, .sentinel, .sentinel], laidTests := true, laidLooks := .later }
def CertificateProvesCardSaid : Prop := Claim7.holds Tryz.pinned (.plain (OpenSpec.ofChange certificateProvesSpec)) certificateProvesCard

/-- THE TIED CARD OF 'framewiselaw07.CertificateCut'. -/
def certificateCutCard : Claim7 := { stood := { row := certificateCutRow, standIns := [], harness := (true, "3c717529aa77d657e15210f5ca0d3b61e43f2adc5b1a0cfa4ba1c685e36e1e96"), looks := true }, kinds := [], alts := [], laidByText := true, laidKinds := [.data, .data, .data, .sentinel, .sentinel], laidTests := true, laidLooks := .later }
def CertificateCutCardSaid : Prop := Claim7.holds Tryz.pinned (.plain (OpenSpec.ofChange certificateCutSpec)) certificateCutCard

/-- THE TIED CARD OF 'framewiselaw04.LinearText'. -/
def linearTextCard : Claim7 := { stood := { row := linearTextRow, standIns := [], harness := (true, "3c717529aa77d657e15210f5ca0d3b61e43f2adc5b1a0cfa4ba1c685e36e1e96"), looks := true }, kinds := [], alts := [], laidByText := true, laidKinds := [.data, .data, .data, .data, .sentinel, .sentinel, .pinned], laidTests := true, laidLooks := .later }
def LinearTextCardSaid : Prop := Claim7.holds Tryz.pinned (.plain (OpenSpec.ofChange linearTextSpec)) linearTextCard

/-- THE TIED CARD OF 'framewiselaw04.LinearOrder'. -/
def linearOrderCard : Claim7 := { stood := { row := linearOrderRow, standIns := [], harness := (true, "3c717529aa77d657e15210f5ca0d3b61e43f2adc5b1a0cfa4ba1c685e36e1e96"), looks := true }, kinds := [], alts := [], laidByText := true, laidKinds := [.data, .data, .data, .data, .sentinel, .sentinel, .pinned], laidTests := true, laidLooks := .later }
def LinearOrderCardSaid : Prop := Claim7.holds Tryz.pinned (.plain (OpenSpec.ofChange linearOrderSpec)) linearOrderCard

/-- THE TIED CARD OF 'framewiselaw04.LinearSums'. -/
def linearSumsCard : Claim7 := { stood := { row := linearSumsRow, standIns := [], harness := (true, "3c717529aa77d657e15210f5ca0d3b61e43f2adc5b1a0cfa4ba1c685e36e1e96"), looks := true }, kinds := [], alts := [], laidByText := true, laidKinds := [.data, .data, .data, .data, .sentinel, .sentinel, .pinned], laidTests := true, laidLooks := .later }
def LinearSumsCardSaid : Prop := Claim7.holds Tryz.pinned (.plain (OpenSpec.ofChange linearSumsSpec)) linearSumsCard

/-- THE TIED CARD OF 'framewiselaw04.LinearAlgebra'. -/
def linearAlgebraCard : Claim7 := { stood := { row := linearAlgebraRow, standIns := [], harness := (true, "3c717529aa77d657e15210f5ca0d3b61e43f2adc5b1a0cfa4ba1c685e36e1e96"), looks := true }, kinds := [], alts := [], laidByText := true, laidKinds := [.data, .data, .data, .data, .sentinel, .sentinel, .pinned], laidTests := true, laidLooks := .later }
def LinearAlgebraCardSaid : Prop := Claim7.holds Tryz.pinned (.plain (OpenSpec.ofChange linearAlgebraSpec)) linearAlgebraCard

/-- THE TIED CARD OF 'framewiselaw07.CertificateCode'. -/
def certificateCodeCard : Claim7 := { stood := { row := certificateCodeRow, standIns := [], harness := (true, "3c717529aa77d657e15210f5ca0d3b61e43f2adc5b1a0cfa4ba1c685e36e1e96"), looks := true }, kinds := [], alts := [], laidByText := true, laidKinds := [.data, .data, .data, .sentinel, .sentinel], laidTests := true, laidLooks := .later }
def CertificateCodeCardSaid : Prop := Claim7.holds Tryz.pinned (.plain (OpenSpec.ofChange certificateCodeSpec)) certificateCodeCard

/-- THE TIED CARD OF 'framewiselaw04.LinearSubst'. -/
def linearSubstCard : Claim7 := { stood := { row := linearSubstRow, standIns := [], harness := (true, "3c717529aa77d657e15210f5ca0d3b61e43f2adc5b1a0cfa4ba1c685e36e1e96"), looks := true }, kinds := [], alts := [], laidByText := true, laidKinds := [.data, .data, .data, .data, .sentinel, .sentinel, .pinned], laidTests := true, laidLooks := .later }
def LinearSubstCardSaid : Prop := Claim7.holds Tryz.pinned (.plain (OpenSpec.ofChange linearSubstSpec)) linearSubstCard

/-- THE SECOND FORM's CARD OF 'framewiselaw07.CertificateCheck'. -/
def certificateCheckUptoCard : Claim7 := { stood := { row := certificateCheckUptoRow, standIns := [], harness := (true, "3c717529aa77d657e15210f5ca0d3b61e43f2adc5b1a0cfa4ba1c685e36e1e96"), looks := true }, kinds := [], alts := [], laidByText := true, laidKinds := [.data, .data, .data, .sentinel, .sentinel], laidTests := true, laidLooks := .later }
def CertificateCheckUptoCardSaid : Prop := Claim7.holds Tryz.pinned (.plain (OpenSpec.upto certificateCheckSpec)) certificateCheckUptoCard

/-- THE SECOND FORM's CARD OF 'framewiselaw07.CertificateProves'. -/
def certificateProvesUptoCard : Claim7 := { stood := { row := certificateProvesUptoRow, standIns := [], harness := (true, "3c717529aa77d657e15210f5ca0d3b61e43f2adc5b1a0cfa4ba1c685e36e1e96"), looks := true }, kinds := [], alts := [], laidByText := true, laidKinds := [.data, .data, .data, .sentinel, .sentinel], laidTests := true, laidLooks := .later }
def CertificateProvesUptoCardSaid : Prop := Claim7.holds Tryz.pinned (.plain (OpenSpec.upto certificateProvesSpec)) certificateProvesUptoCard

/-- THE SECOND FORM's CARD OF 'framewiselaw07.CertificateCut'. -/
def certificateCutUptoCard : Claim7 := { stood := { row := certificateCutUptoRow, standIns := [], harness := (true, "3c717529aa77d657e15210f5ca0d3b61e43f2adc5b1a0cfa4ba1c685e36e1e96"), looks := true }, kinds := [], alts := [], laidByText := true, laidKinds := [.data, .data, .data, .sentinel, .sentinel], laidTests := true, laidLooks := .later }
def CertificateCutUptoCardSaid : Prop := Claim7.holds Tryz.pinned (.plain (OpenSpec.upto certificateCutSpec)) certificateCutUptoCard

/-- THE SECOND FORM's CARD OF 'framewiselaw04.LinearText'. -/
def linearTextUptoCard : Claim7 := { stood := { row := linearTextUptoRow, standIns := [], harness := (true, "3c717529aa77d657e15210f5ca0d3b61e43f2adc5b1a0cfa4ba1c685e36e1e96"), looks := true }, kinds := [], alts := [], laidByText := true, laidKinds := [.data, .data, .data, .data, .sentinel, .sentinel, .pinned], laidTests := true, laidLooks := .later }
def LinearTextUptoCardSaid : Prop := Claim7.holds Tryz.pinned (.plain (OpenSpec.upto linearTextSpec)) linearTextUptoCard

/-- THE SECOND FORM's CARD OF 'framewiselaw04.LinearOrder'. -/
def linearOrderUptoCard : Claim7 := { stood := { row := linearOrderUptoRow, standIns := [], harness := (true, "3c717529aa77d657e15210f5ca0d3b61e43f2adc5b1a0cfa4ba1c685e36e1e96"), looks := true }, kinds := [], alts := [], laidByText := true, laidKinds := [.data, .data, .data, .data, .sentinel, .sentinel, .pinned], laidTests := true, laidLooks := .later }
def LinearOrderUptoCardSaid : Prop := Claim7.holds Tryz.pinned (.plain (OpenSpec.upto linearOrderSpec)) linearOrderUptoCard

/-- THE SECOND FORM's CARD OF 'framewiselaw04.LinearSums'. -/
def linearSumsUptoCard : Claim7 := { stood := { row := linearSumsUptoRow, standIns := [], harness := (true, "3c717529aa77d657e15210f5ca0d3b61e43f2adc5b1a0cfa4ba1c685e36e1e96"), looks := true }, kinds := [], alts := [], laidByText := true, laidKinds := [.data, .data, .data, .data, .sentinel, .sentinel, .pinned], laidTests := true, laidLooks := .later }
def LinearSumsUptoCardSaid : Prop := Claim7.holds Tryz.pinned (.plain (OpenSpec.upto linearSumsSpec)) linearSumsUptoCard

/-- THE SECOND FORM's CARD OF 'framewiselaw04.LinearAlgebra'. -/
def linearAlgebraUptoCard : Claim7 := { stood := { row := linearAlgebraUptoRow, standIns := [], harness := (true, "3c717529aa77d657e15210f5ca0d3b61e43f2adc5b1a0cfa4ba1c685e36e1e96"), looks := true }, kinds := [], alts := [], laidByText := true, laidKinds := [.data, .data, .data, .data, .sentinel, .sentinel, .pinned], laidTests := true, laidLooks := .later }
def LinearAlgebraUptoCardSaid : Prop := Claim7.holds Tryz.pinned (.plain (OpenSpec.upto linearAlgebraSpec)) linearAlgebraUptoCard

/-- THE SECOND FORM's CARD OF 'framewiselaw07.CertificateCode'. -/
def certificateCodeUptoCard : Claim7 := { stood := { row := certificateCodeUptoRow, standIns := [], harness := (true, "3c717529aa77d657e15210f5ca0d3b61e43f2adc5b1a0cfa4ba1c685e36e1e96"), looks := true }, kinds := [], alts := [], laidByText := true, laidKinds := [.data, .data, .data, .sentinel, .sentinel], laidTests := true, laidLooks := .later }
def CertificateCodeUptoCardSaid : Prop := Claim7.holds Tryz.pinned (.plain (OpenSpec.upto certificateCodeSpec)) certificateCodeUptoCard

/-- THE SECOND FORM's CARD OF 'framewiselaw04.LinearSubst'. -/
def linearSubstUptoCard : Claim7 := { stood := { row := linearSubstUptoRow, standIns := [], harness := (true, "3c717529aa77d657e15210f5ca0d3b61e43f2adc5b1a0cfa4ba1c685e36e1e96"), looks := true }, kinds := [], alts := [], laidByText := true, laidKinds := [.data, .data, .data, .data, .sentinel, .sentinel, .pinned], laidTests := true, laidLooks := .later }
def LinearSubstUptoCardSaid : Prop := Claim7.holds Tryz.pinned (.plain (OpenSpec.upto linearSubstSpec)) linearSubstUptoCard
end Rows
end Go.Proofs.YtfagcgjdholinaaGreatDoor

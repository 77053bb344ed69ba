/-
  DERIVED. GIVEN WITH THE SEED: THE CARDS: each row of YtfagcgjdholinaaDoorRows.lean that lists a variable, with what it lists TIED to the program's text (the seventh form; the later family's looks); each row that meets fmt, with fmt's text TOLD by the authors' own Lean function (tested against real Go, not proved from fmt's source: count such statements apart). THE CARD IS WHAT COUNTS. Prove the row's statement (the work); the ties are given (YtfagcgjdholinaaDoorTie.lean); close each card by the builder's one call (the guide's Derived/Test/ToyasCard.lean, 'card_holds'). Laid BY PROGRAM, IN A SANDBOX (cutbox-door.mjs). By AI agents, Wed Nov 11 2026. No macro, syntax, notation, axiom, sorry.
-/
import Derived.Test.YtfagcgjdholinaaDoorRows
import GoSem.ClaimSeven
namespace Go.Proofs.YtfagcgjdholinaaDoor
namespace Rows

/-- THE TIED CARD OF 'framewiselaw07.CertificateCuts'. -/
def certificateCutsCard : Claim7 := { stood := { row := certificateCutsRow, standIns := [], harness := (true, "6721e8965bd7467615eb8f5ee04f415d200d0d47a9cc1a0fe24de1d41257e88b"), looks := true }, kinds := [], alts := [], laidByText := true, laidKinds := [.data, .data, .data, .sentinel, .sentinel], laidTests := true, laidLooks := .later }
def CertificateCutsCardSaid : Prop := Claim7.holds Tryd.pinned (.plain (OpenSpec.ofChange certificateCutsSpec)) certificateCutsCard

/-- THE TIED CARD OF 'framewiselaw07.CertificateSplit'. -/
def certificateSplitCard : Claim7 := { stood := { row := certificateSplitRow, standIns := [], harness := (true, "6721e8965bd7467615eb8f5ee04f415d200d0d47a9cc1a0fe24de1d41257e88b"), looks := true }, kinds := [], alts := [], laidByText := true, laidKinds := [.data, .data, .data, .sentinel, .sentinel], laidTests := true, laidLooks := .later }
def CertificateSplitCardSaid : Prop := Claim7.holds Tryd.pinned (.plain (OpenSpec.ofChange certificateSplitSpec)) certificateSplitCard

/-- THE TIED CARD OF 'framewiselaw07.CertificateSound'. -/
def certificateSoundCard : Claim7 := { stood := { row := certificateSoundRow, standIns := [], harness := (true, "6721e8965bd7467615eb8f5ee04f415d200d0d47a9cc1a0fe24de1d41257e88b"), looks := true }, kinds := [], alts := [], laidByText := true, laidKinds := [.data, .data, .data, .sentinel, .sentinel], laidTests := true, laidLooks := .later }
def CertificateSoundCardSaid : Prop := Claim7.holds Tryd.pinned (.plain (OpenSpec.ofChange certificateSoundSpec)) certificateSoundCard

/-- THE SECOND FORM's CARD OF 'framewiselaw07.CertificateCuts'. -/
def certificateCutsUptoCard : Claim7 := { stood := { row := certificateCutsUptoRow, standIns := [], harness := (true, "6721e8965bd7467615eb8f5ee04f415d200d0d47a9cc1a0fe24de1d41257e88b"), looks := true }, kinds := [], alts := [], laidByText := true, laidKinds := [.data, .data, .data, .sentinel, .sentinel], laidTests := true, laidLooks := .later }
def CertificateCutsUptoCardSaid : Prop := Claim7.holds Tryd.pinned (.plain (OpenSpec.upto certificateCutsSpec)) certificateCutsUptoCard

/-- THE SECOND FORM's CARD OF 'framewiselaw07.CertificateSplit'. -/
def certificateSplitUptoCard : Claim7 := { stood := { row := certificateSplitUptoRow, standIns := [], harness := (true, "6721e8965bd7467615eb8f5ee04f415d200d0d47a9cc1a0fe24de1d41257e88b"), looks := true }, kinds := [], alts := [], laidByText := true, laidKinds := [.data, .data, .data, .sentinel, .sentinel], laidTests := true, laidLooks := .later }
def CertificateSplitUptoCardSaid : Prop := Claim7.holds Tryd.pinned (.plain (OpenSpec.upto certificateSplitSpec)) certificateSplitUptoCard

/-- THE SECOND FORM's CARD OF 'framewiselaw07.CertificateSound'. -/
def certificateSoundUptoCard : Claim7 := { stood := { row := certificateSoundUptoRow, standIns := [], harness := (true, "6721e8965bd7467615eb8f5ee04f415d200d0d47a9cc1a0fe24de1d41257e88b"), looks := true }, kinds := [], alts := [], laidByText := true, laidKinds := [.data, .data, .data, .sentinel, .sentinel], laidTests := true, laidLooks := .later }
def CertificateSoundUptoCardSaid : Prop := Claim7.holds Tryd.pinned (.plain (OpenSpec.upto certificateSoundSpec)) certificateSoundUptoCard
end Rows
end Go.Proofs.YtfagcgjdholinaaDoor

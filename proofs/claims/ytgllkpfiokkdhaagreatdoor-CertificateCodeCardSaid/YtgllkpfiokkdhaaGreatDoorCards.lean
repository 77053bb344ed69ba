/-
  DERIVED. GIVEN WITH THE SEED: THE CARDS: each row of YtgllkpfiokkdhaaGreatDoorRows.lean that lists a variable, with what it lists TIED to the program's text (the seventh form; the later family's looks); each row that meets fmt, with fmt's text TOLD by the authors' own Lean function (tested against real Go, not proved from fmt's source: count such statements apart). THE CARD IS WHAT COUNTS. Prove the row's statement (the work); the ties are given (YtgllkpfiokkdhaaGreatDoorTie.lean); close each card by the builder's one call (the guide's Derived/Test/ToyasCard.lean, 'card_holds'). Laid BY PROGRAM, IN A SANDBOX (cutbox-door.mjs). By AI agents, Wed Nov 11 2026. No macro, syntax, notation, axiom, sorry.
-/
import Derived.Test.YtgllkpfiokkdhaaGreatDoorRows
import GoSem.ClaimSeven
namespace Go.Proofs.YtgllkpfiokkdhaaGreatDoor
namespace Rows

/-- THE TIED CARD OF 'framewiselaw07.CertificateCode'. -/
def certificateCodeCard : Claim7 := { stood := { row := certificateCodeRow, standIns := [], harness := (true, "7a8a8b24e4f9a651cac93efe4db368ab97b7fe19fd32d32d92b67bdaddf5a712"), looks := true }, kinds := [], alts := [], laidByText := true, laidKinds := [.data, .data, .data, .sentinel, .sentinel], laidTests := true, laidLooks := .later }
def CertificateCodeCardSaid : Prop := Claim7.holds Tryz.pinned (.plain (OpenSpec.ofChange certificateCodeSpec)) certificateCodeCard

/-- THE TIED CARD OF 'framewiselaw04.LinearCode'. -/
def linearCodeCard : Claim7 := { stood := { row := linearCodeRow, standIns := [], harness := (true, "7a8a8b24e4f9a651cac93efe4db368ab97b7fe19fd32d32d92b67bdaddf5a712"), looks := true }, kinds := [], alts := [], laidByText := true, laidKinds := [.data, .data, .data, .data, .sentinel, .sentinel, .pinned], laidTests := true, laidLooks := .later }
def LinearCodeCardSaid : Prop := Claim7.holds Tryz.pinned (.plain (OpenSpec.ofChange linearCodeSpec)) linearCodeCard

/-- THE SECOND FORM's CARD OF 'framewiselaw07.CertificateCode'. -/
def certificateCodeUptoCard : Claim7 := { stood := { row := certificateCodeUptoRow, standIns := [], harness := (true, "7a8a8b24e4f9a651cac93efe4db368ab97b7fe19fd32d32d92b67bdaddf5a712"), looks := true }, kinds := [], alts := [], laidByText := true, laidKinds := [.data, .data, .data, .sentinel, .sentinel], laidTests := true, laidLooks := .later }
def CertificateCodeUptoCardSaid : Prop := Claim7.holds Tryz.pinned (.plain (OpenSpec.upto certificateCodeSpec)) certificateCodeUptoCard

/-- THE SECOND FORM's CARD OF 'framewiselaw04.LinearCode'. -/
def linearCodeUptoCard : Claim7 := { stood := { row := linearCodeUptoRow, standIns := [], harness := (true, "7a8a8b24e4f9a651cac93efe4db368ab97b7fe19fd32d32d92b67bdaddf5a712"), looks := true }, kinds := [], alts := [], laidByText := true, laidKinds := [.data, .data, .data, .data, .sentinel, .sentinel, .pinned], laidTests := true, laidLooks := .later }
def LinearCodeUptoCardSaid : Prop := Claim7.holds Tryz.pinned (.plain (OpenSpec.upto linearCodeSpec)) linearCodeUptoCard
end Rows
end Go.Proofs.YtgllkpfiokkdhaaGreatDoor

/-
  DERIVED. GIVEN WITH THE SEED: THE CARDS: each row of YtjfgiaooglnomaaGreatDoorRows.lean that lists a variable, with what it lists TIED to the program's text (the seventh form; the later family's looks); each row that meets fmt, with fmt's text TOLD by the authors' own Lean function (tested against real Go, not proved from fmt's source: count such statements apart). THE CARD IS WHAT COUNTS. Prove the row's statement (the work); the ties are given (YtjfgiaooglnomaaGreatDoorTie.lean); close each card by the builder's one call (the guide's Derived/Test/ToyasCard.lean, 'card_holds'). Laid BY PROGRAM, IN A SANDBOX (cutbox-door.mjs). By AI agents, Wed Nov 11 2026. No macro, syntax, notation, axiom, sorry.
-/
import Derived.Test.YtjfgiaooglnomaaGreatDoorRows
import GoSem.ClaimSeven
namespace Go.Proofs.YtjfgiaooglnomaaGreatDoor
namespace Rows

/-- THE TIED CARD OF 'framewiselaw04.LinearText'. -/
def linearTextCard : Claim7 := { stood := { row := linearTextRow, standIns := [], harness := (true, "3cfda9bc6df2fd52df845d3d99d698b73bd8bf8ba569103954dc054c10005128"), looks := true }, kinds := [], alts := [], laidByText := true, laidKinds := [.data, .data, .data, .data, .sentinel, .sentinel, .pinned], laidTests := true, laidLooks := .later }
def LinearTextCardSaid : Prop := Claim7.holds Tryz.pinned (.plain (OpenSpec.ofChange linearTextSpec)) linearTextCard

/-- THE TIED CARD OF 'framewiselaw07.CertificateCode'. -/
def certificateCodeCard : Claim7 := { stood := { row := certificateCodeRow, standIns := [], harness := (true, "3cfda9bc6df2fd52df845d3d99d698b73bd8bf8ba569103954dc054c10005128"), looks := true }, kinds := [], alts := [], laidByText := true, laidKinds := [.data, .data, .data, .sentinel, .sentinel], laidTests := true, laidLooks := .later }
def CertificateCodeCardSaid : Prop := Claim7.holds Tryz.pinned (.plain (OpenSpec.ofChange certificateCodeSpec)) certificateCodeCard

/-- THE TIED CARD OF 'framewiselaw07.CertificateWeaken'. -/
def certificateWeakenCard : Claim7 := { stood := { row := certificateWeakenRow, standIns := [], harness := (true, "3cfda9bc6df2fd52df845d3d99d698b73bd8bf8ba569103954dc054c10005128"), looks := true }, kinds := [], alts := [], laidByText := true, laidKinds := [.data, .data, .data, .sentinel, .sentinel], laidTests := true, laidLooks := .later }
def CertificateWeakenCardSaid : Prop := Claim7.holds Tryz.pinned (.plain (OpenSpec.ofChange certificateWeakenSpec)) certificateWeakenCard

/-- THE TIED CARD OF 'framewiselaw04.LinearValues'. -/
def linearValuesCard : Claim7 := { stood := { row := linearValuesRow, standIns := [], harness := (true, "3cfda9bc6df2fd52df845d3d99d698b73bd8bf8ba569103954dc054c10005128"), looks := true }, kinds := [], alts := [], laidByText := true, laidKinds := [.data, .data, .data, .data, .sentinel, .sentinel, .pinned], laidTests := true, laidLooks := .later }
def LinearValuesCardSaid : Prop := Claim7.holds Tryz.pinned (.plain (OpenSpec.ofChange linearValuesSpec)) linearValuesCard

/-- THE TIED CARD OF 'framewiselaw10.RegionPoints'. -/
def regionPointsCard : Claim7 := { stood := { row := regionPointsRow, standIns := [], harness := (true, "3cfda9bc6df2fd52df845d3d99d698b73bd8bf8ba569103954dc054c10005128"), looks := true }, kinds := [], alts := [], laidByText := true, laidKinds := [.data, .data, .data, .sentinel, .sentinel], laidTests := true, laidLooks := .later }
def RegionPointsCardSaid : Prop := Claim7.holds Tryz.pinned (.plain (OpenSpec.ofChange regionPointsSpec)) regionPointsCard

/-- THE TIED CARD OF 'framewiselaw10.RegionHas'. -/
def regionHasCard : Claim7 := { stood := { row := regionHasRow, standIns := [], harness := (true, "3cfda9bc6df2fd52df845d3d99d698b73bd8bf8ba569103954dc054c10005128"), looks := true }, kinds := [], alts := [], laidByText := true, laidKinds := [.data, .data, .data, .sentinel, .sentinel], laidTests := true, laidLooks := .later }
def RegionHasCardSaid : Prop := Claim7.holds Tryz.pinned (.plain (OpenSpec.ofChange regionHasSpec)) regionHasCard

/-- THE TIED CARD OF 'framewiselaw10.RegionParts'. -/
def regionPartsCard : Claim7 := { stood := { row := regionPartsRow, standIns := [], harness := (true, "3cfda9bc6df2fd52df845d3d99d698b73bd8bf8ba569103954dc054c10005128"), looks := true }, kinds := [], alts := [], laidByText := true, laidKinds := [.data, .data, .data, .sentinel, .sentinel], laidTests := true, laidLooks := .later }
def RegionPartsCardSaid : Prop := Claim7.holds Tryz.pinned (.plain (OpenSpec.ofChange regionPartsSpec)) regionPartsCard

/-- THE TIED CARD OF 'framewiselaw10.RegionSums'. -/
def regionSumsCard : Claim7 := { stood := { row := regionSumsRow, standIns := [], harness := (true, "3cfda9bc6df2fd52df845d3d99d698b73bd8bf8ba569103954dc054c10005128"), looks := true }, kinds := [], alts := [], laidByText := true, laidKinds := [.data, .data, .data, .sentinel, .sentinel], laidTests := true, laidLooks := .later }
def RegionSumsCardSaid : Prop := Claim7.holds Tryz.pinned (.plain (OpenSpec.ofChange regionSumsSpec)) regionSumsCard

/-- THE TIED CARD OF 'framewiselaw10.RegionValues'. -/
def regionValuesCard : Claim7 := { stood := { row := regionValuesRow, standIns := [], harness := (true, "3cfda9bc6df2fd52df845d3d99d698b73bd8bf8ba569103954dc054c10005128"), looks := true }, kinds := [], alts := [], laidByText := true, laidKinds := [.data, .data, .data, .sentinel, .sentinel], laidTests := true, laidLooks := .later }
def RegionValuesCardSaid : Prop := Claim7.holds Tryz.pinned (.plain (OpenSpec.ofChange regionValuesSpec)) regionValuesCard

/-- THE TIED CARD OF 'framewiselaw10.RegionBounds'. -/
def regionBoundsCard : Claim7 := { stood := { row := regionBoundsRow, standIns := [], harness := (true, "3cfda9bc6df2fd52df845d3d99d698b73bd8bf8ba569103954dc054c10005128"), looks := true }, kinds := [], alts := [], laidByText := true, laidKinds := [.data, .data, .data, .sentinel, .sentinel], laidTests := true, laidLooks := .later }
def RegionBoundsCardSaid : Prop := Claim7.holds Tryz.pinned (.plain (OpenSpec.ofChange regionBoundsSpec)) regionBoundsCard

/-- THE TIED CARD OF 'framewiselaw10.RegionSame'. -/
def regionSameCard : Claim7 := { stood := { row := regionSameRow, standIns := [], harness := (true, "3cfda9bc6df2fd52df845d3d99d698b73bd8bf8ba569103954dc054c10005128"), looks := true }, kinds := [], alts := [], laidByText := true, laidKinds := [.data, .data, .data, .sentinel, .sentinel], laidTests := true, laidLooks := .later }
def RegionSameCardSaid : Prop := Claim7.holds Tryz.pinned (.plain (OpenSpec.ofChange regionSameSpec)) regionSameCard

/-- THE TIED CARD OF 'framewiselaw04.LinearCode'. -/
def linearCodeCard : Claim7 := { stood := { row := linearCodeRow, standIns := [], harness := (true, "3cfda9bc6df2fd52df845d3d99d698b73bd8bf8ba569103954dc054c10005128"), looks := true }, kinds := [], alts := [], laidByText := true, laidKinds := [.data, .data, .data, .data, .sentinel, .sentinel, .pinned], laidTests := true, laidLooks := .later }
def LinearCodeCardSaid : Prop := Claim7.holds Tryz.pinned (.plain (OpenSpec.ofChange linearCodeSpec)) linearCodeCard

/-- THE SECOND FORM's CARD OF 'framewiselaw04.LinearText'. -/
def linearTextUptoCard : Claim7 := { stood := { row := linearTextUptoRow, standIns := [], harness := (true, "3cfda9bc6df2fd52df845d3d99d698b73bd8bf8ba569103954dc054c10005128"), looks := true }, kinds := [], alts := [], laidByText := true, laidKinds := [.data, .data, .data, .data, .sentinel, .sentinel, .pinned], laidTests := true, laidLooks := .later }
def LinearTextUptoCardSaid : Prop := Claim7.holds Tryz.pinned (.plain (OpenSpec.upto linearTextSpec)) linearTextUptoCard

/-- THE SECOND FORM's CARD OF 'framewiselaw07.CertificateCode'. -/
def certificateCodeUptoCard : Claim7 := { stood := { row := certificateCodeUptoRow, standIns := [], harness := (true, "3cfda9bc6df2fd52df845d3d99d698b73bd8bf8ba569103954dc054c10005128"), looks := true }, kinds := [], alts := [], laidByText := true, laidKinds := [.data, .data, .data, .sentinel, .sentinel], laidTests := true, laidLooks := .later }
def CertificateCodeUptoCardSaid : Prop := Claim7.holds Tryz.pinned (.plain (OpenSpec.upto certificateCodeSpec)) certificateCodeUptoCard

/-- THE SECOND FORM's CARD OF 'framewiselaw07.CertificateWeaken'. -/
def certificateWeakenUptoCard : Claim7 := { stood := { row := certificateWeakenUptoRow, standIns := [], harness := (true, "3cfda9bc6df2fd52df845d3d99d698b73bd8bf8ba569103954dc054c10005128"), looks := true }, kinds := [], alts := [], laidByText := true, laidKinds := [.data, .data, .data, .sentinel, .sentinel], laidTests := true, laidLooks := .later }
def CertificateWeakenUptoCardSaid : Prop := Claim7.holds Tryz.pinned (.plain (OpenSpec.upto certificateWeakenSpec)) certificateWeakenUptoCard

/-- THE SECOND FORM's CARD OF 'framewiselaw04.LinearValues'. -/
def linearValuesUptoCard : Claim7 := { stood := { row := linearValuesUptoRow, standIns := [], harness := (true, "3cfda9bc6df2fd52df845d3d99d698b73bd8bf8ba569103954dc054c10005128"), looks := true }, kinds := [], alts := [], laidByText := true, laidKinds := [.data, .data, .data, .data, .sentinel, .sentinel, .pinned], laidTests := true, laidLooks := .later }
def LinearValuesUptoCardSaid : Prop := Claim7.holds Tryz.pinned (.plain (OpenSpec.upto linearValuesSpec)) linearValuesUptoCard

/-- THE SECOND FORM's CARD OF 'framewiselaw10.RegionPoints'. -/
def regionPointsUptoCard : Claim7 := { stood := { row := regionPointsUptoRow, standIns := [], harness := (true, "3cfda9bc6df2fd52df845d3d99d698b73bd8bf8ba569103954dc054c10005128"), looks := true }, kinds := [], alts := [], laidByText := true, laidKinds := [.data, .data, .data, .sentinel, .sentinel], laidTests := true, laidLooks := .later }
def RegionPointsUptoCardSaid : Prop := Claim7.holds Tryz.pinned (.plain (OpenSpec.upto regionPointsSpec)) regionPointsUptoCard

/-- THE SECOND FORM's CARD OF 'framewiselaw10.RegionHas'. -/
def regionHasUptoCard : Claim7 := { stood := { row := regionHasUptoRow, standIns := [], harness := (true, "3cfda9bc6df2fd52df845d3d99d698b73bd8bf8ba569103954dc054c10005128"), looks := true }, kinds := [], alts := [], laidByText := true, laidKinds := [.data, .data, .data, .sentinel, .sentinel], laidTests := true, laidLooks := .later }
def RegionHasUptoCardSaid : Prop := Claim7.holds Tryz.pinned (.plain (OpenSpec.upto regionHasSpec)) regionHasUptoCard

/-- THE SECOND FORM's CARD OF 'framewiselaw10.RegionParts'. -/
def regionPartsUptoCard : Claim7 := { stood := { row := regionPartsUptoRow, standIns := [], harness := (true, "3cfda9bc6df2fd52df845d3d99d698b73bd8bf8ba569103954dc054c10005128"), looks := true }, kinds := [], alts := [], laidByText := true, laidKinds := [.data, .data, .data, .sentinel, .sentinel], laidTests := true, laidLooks := .later }
def RegionPartsUptoCardSaid : Prop := Claim7.holds Tryz.pinned (.plain (OpenSpec.upto regionPartsSpec)) regionPartsUptoCard

/-- THE SECOND FORM's CARD OF 'framewiselaw10.RegionSums'. -/
def regionSumsUptoCard : Claim7 := { stood := { row := regionSumsUptoRow, standIns := [], harness := (true, "3cfda9bc6df2fd52df845d3d99d698b73bd8bf8ba569103954dc054c10005128"), looks := true }, kinds := [], alts := [], laidByText := true, laidKinds := [.data, .data, .data, .sentinel, .sentinel], laidTests := true, laidLooks := .later }
def RegionSumsUptoCardSaid : Prop := Claim7.holds Tryz.pinned (.plain (OpenSpec.upto regionSumsSpec)) regionSumsUptoCard

/-- THE SECOND FORM's CARD OF 'framewiselaw10.RegionValues'. -/
def regionValuesUptoCard : Claim7 := { stood := { row := regionValuesUptoRow, standIns := [], harness := (true, "3cfda9bc6df2fd52df845d3d99d698b73bd8bf8ba569103954dc054c10005128"), looks := true }, kinds := [], alts := [], laidByText := true, laidKinds := [.data, .data, .data, .sentinel, .sentinel], laidTests := true, laidLooks := .later }
def RegionValuesUptoCardSaid : Prop := Claim7.holds Tryz.pinned (.plain (OpenSpec.upto regionValuesSpec)) regionValuesUptoCard

/-- THE SECOND FORM's CARD OF 'framewiselaw10.RegionBounds'. -/
def regionBoundsUptoCard : Claim7 := { stood := { row := regionBoundsUptoRow, standIns := [], harness := (true, "3cfda9bc6df2fd52df845d3d99d698b73bd8bf8ba569103954dc054c10005128"), looks := true }, kinds := [], alts := [], laidByText := true, laidKinds := [.data, .data, .data, .sentinel, .sentinel], laidTests := true, laidLooks := .later }
def RegionBoundsUptoCardSaid : Prop := Claim7.holds Tryz.pinned (.plain (OpenSpec.upto regionBoundsSpec)) regionBoundsUptoCard

/-- THE SECOND FORM's CARD OF 'framewiselaw10.RegionSame'. -/
def regionSameUptoCard : Claim7 := { stood := { row := regionSameUptoRow, standIns := [], harness := (true, "3cfda9bc6df2fd52df845d3d99d698b73bd8bf8ba569103954dc054c10005128"), looks := true }, kinds := [], alts := [], laidByText := true, laidKinds := [.data, .data, .data, .sentinel, .sentinel], laidTests := true, laidLooks := .later }
def RegionSameUptoCardSaid : Prop := Claim7.holds Tryz.pinned (.plain (OpenSpec.upto regionSameSpec)) regionSameUptoCard

/-- THE SECOND FORM's CARD OF 'framewiselaw04.LinearCode'. -/
def linearCodeUptoCard : Claim7 := { stood := { row := linearCodeUptoRow, standIns := [], harness := (true, "3cfda9bc6df2fd52df845d3d99d698b73bd8bf8ba569103954dc054c10005128"), looks := true }, kinds := [], alts := [], laidByText := true, laidKinds := [.data, .data, .data, .data, .sentinel, .sentinel, .pinned], laidTests := true, laidLooks := .later }
def LinearCodeUptoCardSaid : Prop := Claim7.holds Tryz.pinned (.plain (OpenSpec.upto linearCodeSpec)) linearCodeUptoCard
end Rows
end Go.Proofs.YtjfgiaooglnomaaGreatDoor

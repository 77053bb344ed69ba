/-
  No cell of these rows narrows 'for every input' (looked for: loops, veiled, ifaces, maps, wideKeys, modest, calm, conditions, laid).
  DERIVED. THE GIVEN ROWS OF THIS SEAT. 12 by the template 'for every input the law returns true; each argument reads behind the call as it read before'; 0 by the template 'total and deterministic' (their statements: YtpdpkmihgelmoaaTotals.lean).
  GIVEN WITH THE SEED: the statements are not yours to turn. If you find one false, say at which input.
  Laid BY PROGRAM, IN A SANDBOX (cutbox-rows.mjs): the forced cells as the released guide's own fill.sh prints them over the translation adf80e7e19eec571… (all of the seat's roots in one cut). By AI agents, Wed Nov 11 2026. No macro, syntax, notation, axiom, sorry.
-/
import Derived.Test.YtpdpkmihgelmoaaChecked
import GoSem.Claim
import GoSem.ClaimJoined
import GoSem.ClaimMapViews
import Derived.JoinedTies
import Derived.KernelRfl
namespace Go.Proofs.Ytpdpkmihgelmoaa
/- THE CELL 'sum', in the pinned program and in every row, IS THE sha256 OF THE DUMP (.gsa) THAT YtpdpkmihgelmoaaProg.lean LOADS. Nothing in Lean hashes anything: it is a label: what it is worth is what the hold of that sum in a sandbox is worth. -/
noncomputable def Try.pinned : Pinned := { name := "ytpdpkmihgelmoaa", sum := "adf80e7e19eec57112b7d7ae26362045ef37bcda401009e12bd01b6c85cc036e", checked := Try.checked }
namespace Rows
def none {H : Type} : Left H := { results := [], args := [] }

/-- 'framewiselaw03.IntmathDivision': WHATEVER THE INPUT: true; the input reads as it did. -/
def intmathDivisionSpec : ChangeSpec := { name := "intmathDivision", fn := fun _ => fun
  | [d1, d2] => { results := [.lit (.bool true)], args := [d1, d2] }
  | _ => none }
def intmathDivisionRow : OpenClaim := { program := "ytpdpkmihgelmoaa", sum := "adf80e7e19eec57112b7d7ae26362045ef37bcda401009e12bd01b6c85cc036e", func := "framewise/framewiselaw03.IntmathDivision", spec := "intmathDivision", inPlace := ["math/bits.Add64", "math/bits.Sub64"], unfollowed := true, recurses := true, apart := false }
def IntmathDivisionSaid : Prop := intmathDivisionRow.holds Try.pinned (OpenSpec.ofChange intmathDivisionSpec)

/-- ITS FALSE NEIGHBOUR: 'it returns false'. Refute it at one input. -/
def intmathDivisionWrong : ChangeSpec := { name := "intmathDivision", fn := fun _ => fun
  | [d1, d2] => { results := [.lit (.bool false)], args := [d1, d2] }
  | _ => none }
def IntmathDivisionWrongFalsely : Prop := intmathDivisionRow.holds Try.pinned (OpenSpec.ofChange intmathDivisionWrong)

/-- 'framewiselaw19.ViewOf': WHATEVER THE INPUT: true; the input reads as it did. -/
def viewOfSpec : ChangeSpec := { name := "viewOf", fn := fun _ => fun
  | [d1, d2, d3] => { results := [.lit (.bool true)], args := [d1, d2, d3] }
  | _ => none }
def viewOfRow : OpenClaim := { program := "ytpdpkmihgelmoaa", sum := "adf80e7e19eec57112b7d7ae26362045ef37bcda401009e12bd01b6c85cc036e", func := "framewise/framewiselaw19.ViewOf", spec := "viewOf", unfollowed := true, recurses := true, apart := false }
def ViewOfSaid : Prop := viewOfRow.holds Try.pinned (OpenSpec.ofChange viewOfSpec)

/-- ITS FALSE NEIGHBOUR: 'it returns false'. Refute it at one input. -/
def viewOfWrong : ChangeSpec := { name := "viewOf", fn := fun _ => fun
  | [d1, d2, d3] => { results := [.lit (.bool false)], args := [d1, d2, d3] }
  | _ => none }
def ViewOfWrongFalsely : Prop := viewOfRow.holds Try.pinned (OpenSpec.ofChange viewOfWrong)

/-- 'framewiselaw03.IntmathCommon': WHATEVER THE INPUT: true; the input reads as it did. -/
def intmathCommonSpec : ChangeSpec := { name := "intmathCommon", fn := fun _ => fun
  | [d1, d2, d3] => { results := [.lit (.bool true)], args := [d1, d2, d3] }
  | _ => none }
def intmathCommonRow : OpenClaim := { program := "ytpdpkmihgelmoaa", sum := "adf80e7e19eec57112b7d7ae26362045ef37bcda401009e12bd01b6c85cc036e", func := "framewise/framewiselaw03.IntmathCommon", spec := "intmathCommon", inPlace := ["math/bits.Add64", "math/bits.Sub64"], unfollowed := true, recurses := true, apart := false }
def IntmathCommonSaid : Prop := intmathCommonRow.holds Try.pinned (OpenSpec.ofChange intmathCommonSpec)

/-- ITS FALSE NEIGHBOUR: 'it returns false'. Refute it at one input. -/
def intmathCommonWrong : ChangeSpec := { name := "intmathCommon", fn := fun _ => fun
  | [d1, d2, d3] => { results := [.lit (.bool false)], args := [d1, d2, d3] }
  | _ => none }
def IntmathCommonWrongFalsely : Prop := intmathCommonRow.holds Try.pinned (OpenSpec.ofChange intmathCommonWrong)

/-- 'framewiselaw19.ViewTwice': WHATEVER THE INPUT: true; the input reads as it did. -/
def viewTwiceSpec : ChangeSpec := { name := "viewTwice", fn := fun _ => fun
  | [d] => { results := [.lit (.bool true)], args := [d] }
  | _ => none }
def viewTwiceRow : OpenClaim := { program := "ytpdpkmihgelmoaa", sum := "adf80e7e19eec57112b7d7ae26362045ef37bcda401009e12bd01b6c85cc036e", func := "framewise/framewiselaw19.ViewTwice", spec := "viewTwice", unfollowed := true, recurses := true, apart := false }
def ViewTwiceSaid : Prop := viewTwiceRow.holds Try.pinned (OpenSpec.ofChange viewTwiceSpec)

/-- ITS FALSE NEIGHBOUR: 'it returns false'. Refute it at one input. -/
def viewTwiceWrong : ChangeSpec := { name := "viewTwice", fn := fun _ => fun
  | [d] => { results := [.lit (.bool false)], args := [d] }
  | _ => none }
def ViewTwiceWrongFalsely : Prop := viewTwiceRow.holds Try.pinned (OpenSpec.ofChange viewTwiceWrong)

/-- 'framewiselaw03.IntmathBasic': WHATEVER THE INPUT: true; the input reads as it did. -/
def intmathBasicSpec : ChangeSpec := { name := "intmathBasic", fn := fun _ => fun
  | [d1, d2] => { results := [.lit (.bool true)], args := [d1, d2] }
  | _ => none }
def intmathBasicRow : OpenClaim := { program := "ytpdpkmihgelmoaa", sum := "adf80e7e19eec57112b7d7ae26362045ef37bcda401009e12bd01b6c85cc036e", func := "framewise/framewiselaw03.IntmathBasic", spec := "intmathBasic", inPlace := ["math/bits.Add64", "math/bits.Sub64"], unfollowed := true, recurses := true, apart := false }
def IntmathBasicSaid : Prop := intmathBasicRow.holds Try.pinned (OpenSpec.ofChange intmathBasicSpec)

/-- ITS FALSE NEIGHBOUR: 'it returns false'. Refute it at one input. -/
def intmathBasicWrong : ChangeSpec := { name := "intmathBasic", fn := fun _ => fun
  | [d1, d2] => { results := [.lit (.bool false)], args := [d1, d2] }
  | _ => none }
def IntmathBasicWrongFalsely : Prop := intmathBasicRow.holds Try.pinned (OpenSpec.ofChange intmathBasicWrong)

/-- 'framewiselaw03.IntmathLists': WHATEVER THE INPUT: true; the input reads as it did. -/
def intmathListsSpec : ChangeSpec := { name := "intmathLists", fn := fun _ => fun
  | [d1, d2] => { results := [.lit (.bool true)], args := [d1, d2] }
  | _ => none }
def intmathListsRow : OpenClaim := { program := "ytpdpkmihgelmoaa", sum := "adf80e7e19eec57112b7d7ae26362045ef37bcda401009e12bd01b6c85cc036e", func := "framewise/framewiselaw03.IntmathLists", spec := "intmathLists", inPlace := ["math/bits.Add64", "math/bits.Sub64"], unfollowed := true, recurses := true, apart := false }
def IntmathListsSaid : Prop := intmathListsRow.holds Try.pinned (OpenSpec.ofChange intmathListsSpec)

/-- ITS FALSE NEIGHBOUR: 'it returns false'. Refute it at one input. -/
def intmathListsWrong : ChangeSpec := { name := "intmathLists", fn := fun _ => fun
  | [d1, d2] => { results := [.lit (.bool false)], args := [d1, d2] }
  | _ => none }
def IntmathListsWrongFalsely : Prop := intmathListsRow.holds Try.pinned (OpenSpec.ofChange intmathListsWrong)

/-- 'framewiselaw03.IntmathMultiples': WHATEVER THE INPUT: true; the input reads as it did. -/
def intmathMultiplesSpec : ChangeSpec := { name := "intmathMultiples", fn := fun _ => fun
  | [d1, d2] => { results := [.lit (.bool true)], args := [d1, d2] }
  | _ => none }
def intmathMultiplesRow : OpenClaim := { program := "ytpdpkmihgelmoaa", sum := "adf80e7e19eec57112b7d7ae26362045ef37bcda401009e12bd01b6c85cc036e", func := "framewise/framewiselaw03.IntmathMultiples", spec := "intmathMultiples", inPlace := ["math/bits.Add64", "math/bits.Sub64"], unfollowed := true, recurses := true, apart := false }
def IntmathMultiplesSaid : Prop := intmathMultiplesRow.holds Try.pinned (OpenSpec.ofChange intmathMultiplesSpec)

/-- ITS FALSE NEIGHBOUR: 'it returns false'. Refute it at one input. -/
def intmathMultiplesWrong : ChangeSpec := { name := "intmathMultiples", fn := fun _ => fun
  | [d1, d2] => { results := [.lit (.bool false)], args := [d1, d2] }
  | _ => none }
def IntmathMultiplesWrongFalsely : Prop := intmathMultiplesRow.holds Try.pinned (OpenSpec.ofChange intmathMultiplesWrong)

/-- 'framewiselaw03.IntmathDivisors': WHATEVER THE INPUT: true; the input reads as it did. -/
def intmathDivisorsSpec : ChangeSpec := { name := "intmathDivisors", fn := fun _ => fun
  | [d1, d2] => { results := [.lit (.bool true)], args := [d1, d2] }
  | _ => none }
def intmathDivisorsRow : OpenClaim := { program := "ytpdpkmihgelmoaa", sum := "adf80e7e19eec57112b7d7ae26362045ef37bcda401009e12bd01b6c85cc036e", func := "framewise/framewiselaw03.IntmathDivisors", spec := "intmathDivisors", inPlace := ["math/bits.Add64", "math/bits.Sub64"], unfollowed := true, recurses := true, apart := false }
def IntmathDivisorsSaid : Prop := intmathDivisorsRow.holds Try.pinned (OpenSpec.ofChange intmathDivisorsSpec)

/-- ITS FALSE NEIGHBOUR: 'it returns false'. Refute it at one input. -/
def intmathDivisorsWrong : ChangeSpec := { name := "intmathDivisors", fn := fun _ => fun
  | [d1, d2] => { results := [.lit (.bool false)], args := [d1, d2] }
  | _ => none }
def IntmathDivisorsWrongFalsely : Prop := intmathDivisorsRow.holds Try.pinned (OpenSpec.ofChange intmathDivisorsWrong)

/-- 'framewiselaw19.ViewParts': WHATEVER THE INPUT: true; the input reads as it did. -/
def viewPartsSpec : ChangeSpec := { name := "viewParts", fn := fun _ => fun
  | [d1, d2, d3] => { results := [.lit (.bool true)], args := [d1, d2, d3] }
  | _ => none }
def viewPartsRow : OpenClaim := { program := "ytpdpkmihgelmoaa", sum := "adf80e7e19eec57112b7d7ae26362045ef37bcda401009e12bd01b6c85cc036e", func := "framewise/framewiselaw19.ViewParts", spec := "viewParts", unfollowed := true, recurses := true, apart := false }
def ViewPartsSaid : Prop := viewPartsRow.holds Try.pinned (OpenSpec.ofChange viewPartsSpec)

/-- ITS FALSE NEIGHBOUR: 'it returns false'. Refute it at one input. -/
def viewPartsWrong : ChangeSpec := { name := "viewParts", fn := fun _ => fun
  | [d1, d2, d3] => { results := [.lit (.bool false)], args := [d1, d2, d3] }
  | _ => none }
def ViewPartsWrongFalsely : Prop := viewPartsRow.holds Try.pinned (OpenSpec.ofChange viewPartsWrong)

/-- 'framewiselaw19.ViewStep': WHATEVER THE INPUT: true; the input reads as it did. -/
def viewStepSpec : ChangeSpec := { name := "viewStep", fn := fun _ => fun
  | [d1, d2] => { results := [.lit (.bool true)], args := [d1, d2] }
  | _ => none }
def viewStepRow : OpenClaim := { program := "ytpdpkmihgelmoaa", sum := "adf80e7e19eec57112b7d7ae26362045ef37bcda401009e12bd01b6c85cc036e", func := "framewise/framewiselaw19.ViewStep", spec := "viewStep", unfollowed := true, recurses := true, apart := false }
def ViewStepSaid : Prop := viewStepRow.holds Try.pinned (OpenSpec.ofChange viewStepSpec)

/-- ITS FALSE NEIGHBOUR: 'it returns false'. Refute it at one input. -/
def viewStepWrong : ChangeSpec := { name := "viewStep", fn := fun _ => fun
  | [d1, d2] => { results := [.lit (.bool false)], args := [d1, d2] }
  | _ => none }
def ViewStepWrongFalsely : Prop := viewStepRow.holds Try.pinned (OpenSpec.ofChange viewStepWrong)

/-- 'framewiselaw19.ViewCopy': WHATEVER THE INPUT: true; the input reads as it did. -/
def viewCopySpec : ChangeSpec := { name := "viewCopy", fn := fun _ => fun
  | [d1, d2] => { results := [.lit (.bool true)], args := [d1, d2] }
  | _ => none }
def viewCopyRow : OpenClaim := { program := "ytpdpkmihgelmoaa", sum := "adf80e7e19eec57112b7d7ae26362045ef37bcda401009e12bd01b6c85cc036e", func := "framewise/framewiselaw19.ViewCopy", spec := "viewCopy", unfollowed := true, recurses := true, apart := false }
def ViewCopySaid : Prop := viewCopyRow.holds Try.pinned (OpenSpec.ofChange viewCopySpec)

/-- ITS FALSE NEIGHBOUR: 'it returns false'. Refute it at one input. -/
def viewCopyWrong : ChangeSpec := { name := "viewCopy", fn := fun _ => fun
  | [d1, d2] => { results := [.lit (.bool false)], args := [d1, d2] }
  | _ => none }
def ViewCopyWrongFalsely : Prop := viewCopyRow.holds Try.pinned (OpenSpec.ofChange viewCopyWrong)

/-- 'framewiselaw19.ViewInside': WHATEVER THE INPUT: true; the input reads as it did. -/
def viewInsideSpec : ChangeSpec := { name := "viewInside", fn := fun _ => fun
  | [d1, d2] => { results := [.lit (.bool true)], args := [d1, d2] }
  | _ => none }
def viewInsideRow : OpenClaim := { program := "ytpdpkmihgelmoaa", sum := "adf80e7e19eec57112b7d7ae26362045ef37bcda401009e12bd01b6c85cc036e", func := "framewise/framewiselaw19.ViewInside", spec := "viewInside", unfollowed := true, recurses := true, apart := false }
def ViewInsideSaid : Prop := viewInsideRow.holds Try.pinned (OpenSpec.ofChange viewInsideSpec)

/-- ITS FALSE NEIGHBOUR: 'it returns false'. Refute it at one input. -/
def viewInsideWrong : ChangeSpec := { name := "viewInside", fn := fun _ => fun
  | [d1, d2] => { results := [.lit (.bool false)], args := [d1, d2] }
  | _ => none }
def ViewInsideWrongFalsely : Prop := viewInsideRow.holds Try.pinned (OpenSpec.ofChange viewInsideWrong)

/- THE SECOND FORM. 'bulk': how many values and letters a reading holds, each counted each time it is reached (what is shared counts as often as it is met; a slice's spare places count too). A statement '..UptoSaid' is the law's where the arguments, and the package variables that the reading takes, are together of bulk at most 1048576: NARROWER than '..Said'. Prove '..Said' where nothing that the law and all that it calls make is longer than what came in: it says more and counts as full. Else prove '..UptoSaid'. A law counts once. -/
mutual
def uptoBulk {H : Type} : DataW H → Nat
  | .lit (.string bytes) => bytes.length + 1
  | .lit _ => 1
  | .nil => 1
  | .ptr d => uptoBulk d + 1
  | .slice elems spare => uptoBulkAll elems + uptoBulkAll spare + 1
  | .agg parts => uptoBulkAll parts + 1
  | .iface _ d => uptoBulk d + 1
  | .map entries => uptoBulkEntries entries + 1
  | .held _ => 1
def uptoBulkAll {H : Type} : List (DataW H) → Nat
  | [] => 0
  | d :: r => uptoBulk d + uptoBulkAll r
def uptoBulkEntries {H : Type} : List (Lit × DataW H) → Nat
  | [] => 0
  | x :: r => uptoBulkEntry x + uptoBulkEntries r
def uptoBulkEntry {H : Type} : Lit × DataW H → Nat
  | (.string bytes, d) => bytes.length + uptoBulk d + 1
  | (_, d) => uptoBulk d + 1
 end
def uptoSmall : (H : Type) → List (DataW H) → Bool := fun _ ds => decide (uptoBulkAll ds ≤ 1048576)
def OpenSpec.upto (s : _root_.Go.ChangeSpec) : _root_.Go.OpenSpec := { _root_.Go.OpenSpec.ofChange s with cond := some uptoSmall }

/-- 'framewiselaw03.IntmathDivision', WHERE WHAT IT READS IS OF BULK AT MOST 1048576: true; the input reads as it did. -/
def intmathDivisionUptoRow : OpenClaim := { program := "ytpdpkmihgelmoaa", sum := "adf80e7e19eec57112b7d7ae26362045ef37bcda401009e12bd01b6c85cc036e", func := "framewise/framewiselaw03.IntmathDivision", spec := "intmathDivision", inPlace := ["math/bits.Add64", "math/bits.Sub64"], unfollowed := true, recurses := true, apart := false, narrowed := true }
def IntmathDivisionUptoSaid : Prop := intmathDivisionUptoRow.holds Try.pinned (OpenSpec.upto intmathDivisionSpec)

/-- 'framewiselaw19.ViewOf', WHERE WHAT IT READS IS OF BULK AT MOST 1048576: true; the input reads as it did. -/
def viewOfUptoRow : OpenClaim := { program := "ytpdpkmihgelmoaa", sum := "adf80e7e19eec57112b7d7ae26362045ef37bcda401009e12bd01b6c85cc036e", func := "framewise/framewiselaw19.ViewOf", spec := "viewOf", unfollowed := true, recurses := true, apart := false, narrowed := true }
def ViewOfUptoSaid : Prop := viewOfUptoRow.holds Try.pinned (OpenSpec.upto viewOfSpec)

/-- 'framewiselaw03.IntmathCommon', WHERE WHAT IT READS IS OF BULK AT MOST 1048576: true; the input reads as it did. -/
def intmathCommonUptoRow : OpenClaim := { program := "ytpdpkmihgelmoaa", sum := "adf80e7e19eec57112b7d7ae26362045ef37bcda401009e12bd01b6c85cc036e", func := "framewise/framewiselaw03.IntmathCommon", spec := "intmathCommon", inPlace := ["math/bits.Add64", "math/bits.Sub64"], unfollowed := true, recurses := true, apart := false, narrowed := true }
def IntmathCommonUptoSaid : Prop := intmathCommonUptoRow.holds Try.pinned (OpenSpec.upto intmathCommonSpec)

/-- 'framewiselaw19.ViewTwice', WHERE WHAT IT READS IS OF BULK AT MOST 1048576: true; the input reads as it did. -/
def viewTwiceUptoRow : OpenClaim := { program := "ytpdpkmihgelmoaa", sum := "adf80e7e19eec57112b7d7ae26362045ef37bcda401009e12bd01b6c85cc036e", func := "framewise/framewiselaw19.ViewTwice", spec := "viewTwice", unfollowed := true, recurses := true, apart := false, narrowed := true }
def ViewTwiceUptoSaid : Prop := viewTwiceUptoRow.holds Try.pinned (OpenSpec.upto viewTwiceSpec)

/-- 'framewiselaw03.IntmathBasic', WHERE WHAT IT READS IS OF BULK AT MOST 1048576: true; the input reads as it did. -/
def intmathBasicUptoRow : OpenClaim := { program := "ytpdpkmihgelmoaa", sum := "adf80e7e19eec57112b7d7ae26362045ef37bcda401009e12bd01b6c85cc036e", func := "framewise/framewiselaw03.IntmathBasic", spec := "intmathBasic", inPlace := ["math/bits.Add64", "math/bits.Sub64"], unfollowed := true, recurses := true, apart := false, narrowed := true }
def IntmathBasicUptoSaid : Prop := intmathBasicUptoRow.holds Try.pinned (OpenSpec.upto intmathBasicSpec)

/-- 'framewiselaw03.IntmathLists', WHERE WHAT IT READS IS OF BULK AT MOST 1048576: true; the input reads as it did. -/
def intmathListsUptoRow : OpenClaim := { program := "ytpdpkmihgelmoaa", sum := "adf80e7e19eec57112b7d7ae26362045ef37bcda401009e12bd01b6c85cc036e", func := "framewise/framewiselaw03.IntmathLists", spec := "intmathLists", inPlace := ["math/bits.Add64", "math/bits.Sub64"], unfollowed := true, recurses := true, apart := false, narrowed := true }
def IntmathListsUptoSaid : Prop := intmathListsUptoRow.holds Try.pinned (OpenSpec.upto intmathListsSpec)

/-- 'framewiselaw03.IntmathMultiples', WHERE WHAT IT READS IS OF BULK AT MOST 1048576: true; the input reads as it did. -/
def intmathMultiplesUptoRow : OpenClaim := { program := "ytpdpkmihgelmoaa", sum := "adf80e7e19eec57112b7d7ae26362045ef37bcda401009e12bd01b6c85cc036e", func := "framewise/framewiselaw03.IntmathMultiples", spec := "intmathMultiples", inPlace := ["math/bits.Add64", "math/bits.Sub64"], unfollowed := true, recurses := true, apart := false, narrowed := true }
def IntmathMultiplesUptoSaid : Prop := intmathMultiplesUptoRow.holds Try.pinned (OpenSpec.upto intmathMultiplesSpec)

/-- 'framewiselaw03.IntmathDivisors', WHERE WHAT IT READS IS OF BULK AT MOST 1048576: true; the input reads as it did. -/
def intmathDivisorsUptoRow : OpenClaim := { program := "ytpdpkmihgelmoaa", sum := "adf80e7e19eec57112b7d7ae26362045ef37bcda401009e12bd01b6c85cc036e", func := "framewise/framewiselaw03.IntmathDivisors", spec := "intmathDivisors", inPlace := ["math/bits.Add64", "math/bits.Sub64"], unfollowed := true, recurses := true, apart := false, narrowed := true }
def IntmathDivisorsUptoSaid : Prop := intmathDivisorsUptoRow.holds Try.pinned (OpenSpec.upto intmathDivisorsSpec)

/-- 'framewiselaw19.ViewParts', WHERE WHAT IT READS IS OF BULK AT MOST 1048576: true; the input reads as it did. -/
def viewPartsUptoRow : OpenClaim := { program := "ytpdpkmihgelmoaa", sum := "adf80e7e19eec57112b7d7ae26362045ef37bcda401009e12bd01b6c85cc036e", func := "framewise/framewiselaw19.ViewParts", spec := "viewParts", unfollowed := true, recurses := true, apart := false, narrowed := true }
def ViewPartsUptoSaid : Prop := viewPartsUptoRow.holds Try.pinned (OpenSpec.upto viewPartsSpec)

/-- 'framewiselaw19.ViewStep', WHERE WHAT IT READS IS OF BULK AT MOST 1048576: true; the input reads as it did. -/
def viewStepUptoRow : OpenClaim := { program := "ytpdpkmihgelmoaa", sum := "adf80e7e19eec57112b7d7ae26362045ef37bcda401009e12bd01b6c85cc036e", func := "framewise/framewiselaw19.ViewStep", spec := "viewStep", unfollowed := true, recurses := true, apart := false, narrowed := true }
def ViewStepUptoSaid : Prop := viewStepUptoRow.holds Try.pinned (OpenSpec.upto viewStepSpec)

/-- 'framewiselaw19.ViewCopy', WHERE WHAT IT READS IS OF BULK AT MOST 1048576: true; the input reads as it did. -/
def viewCopyUptoRow : OpenClaim := { program := "ytpdpkmihgelmoaa", sum := "adf80e7e19eec57112b7d7ae26362045ef37bcda401009e12bd01b6c85cc036e", func := "framewise/framewiselaw19.ViewCopy", spec := "viewCopy", unfollowed := true, recurses := true, apart := false, narrowed := true }
def ViewCopyUptoSaid : Prop := viewCopyUptoRow.holds Try.pinned (OpenSpec.upto viewCopySpec)

/-- 'framewiselaw19.ViewInside', WHERE WHAT IT READS IS OF BULK AT MOST 1048576: true; the input reads as it did. -/
def viewInsideUptoRow : OpenClaim := { program := "ytpdpkmihgelmoaa", sum := "adf80e7e19eec57112b7d7ae26362045ef37bcda401009e12bd01b6c85cc036e", func := "framewise/framewiselaw19.ViewInside", spec := "viewInside", unfollowed := true, recurses := true, apart := false, narrowed := true }
def ViewInsideUptoSaid : Prop := viewInsideUptoRow.holds Try.pinned (OpenSpec.upto viewInsideSpec)

end Rows
end Go.Proofs.Ytpdpkmihgelmoaa

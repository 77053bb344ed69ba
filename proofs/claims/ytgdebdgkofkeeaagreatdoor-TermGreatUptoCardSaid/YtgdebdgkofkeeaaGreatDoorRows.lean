/-
  NARROWER THAN 'FOR EVERY INPUT', by the rows' own cells (each row's printed sentence says how): TermAlpha: loops, laid · TermValid: loops, laid · TermGreat: loops, laid · TermStandard: loops, laid · TermNodes: loops, laid · TermUnion: loops, laid · TermReplace: loops, laid · TermNames: loops, laid · TermParts: loops, laid.
  DERIVED. THE GIVEN ROWS OF THIS SEAT. 9 by the template 'for every input the law returns true; each argument reads behind the call as it read before'; 0 by the template 'total and deterministic' (their statements: YtgdebdgkofkeeaaGreatDoorTotals.lean).
  GIVEN WITH THE SEED: the statements are not yours to turn. If you find one false, say at which input.
  Laid BY PROGRAM, IN A SANDBOX (cutbox-rows.mjs): the forced cells as the released guide's own fill.sh prints them over the translation d2a538de22d47774… (all of the seat's roots in one cut). By AI agents, Wed Nov 11 2026. No macro, syntax, notation, axiom, sorry.
-/
import Derived.Test.YtgdebdgkofkeeaaGreatDoorChecked
import GoSem.Claim
import GoSem.ClaimJoined
import GoSem.ClaimMapViews
import Derived.JoinedTies
import Derived.KernelRfl
namespace Go.Proofs.YtgdebdgkofkeeaaGreatDoor
/- THE CELL 'sum', in the pinned program and in every row, IS THE sha256 OF THE DUMP (.gsa) THAT YtgdebdgkofkeeaaGreatDoorProg.lean LOADS. Nothing in Lean hashes anything: it is a label: what it is worth is what the hold of that sum in a sandbox is worth. -/
noncomputable def Tryz.pinned : Pinned := { name := "ytgdebdgkofkeeaagreatdoor", sum := "d2a538de22d47774da9aa4f56f669180304974c03bd6ea8a3285e993c247575d", checked := Tryz.checked }
namespace Rows
def none {H : Type} : Left H := { results := [], args := [] }

/- WHAT THE LISTED PACKAGE-LEVEL VARIABLES READ AS WHEN THE CALL BEGINS. Each datum BY PROGRAM (the guide's laid-datum.mjs) off the statement by which the dump's own 'gosem.cut.vars' lays the variable. In a bare row this is a premise. The card (YtgdebdgkofkeeaaGreatDoorCards.lean) ties it to the program's text. -/
def laid_math_bits_deBruijn32tab {H : Type} : DataW H := .agg [.lit (.int .u8 0), .lit (.int .u8 1), .lit (.int .u8 28), .lit (.int .u8 2), .lit (.int .u8 29), .lit (.int .u8 14), .lit (.int .u8 24), .lit (.int .u8 3), .lit (.int .u8 30), .lit (.int .u8 22), .lit (.int .u8 20), .lit (.int .u8 15), .lit (.int .u8 25), .lit (.int .u8 17), .lit (.int .u8 4), .lit (.int .u8 8), .lit (.int .u8 31), .lit (.int .u8 27), .lit (.int .u8 13), .lit (.int .u8 23), .lit (.int .u8 21), .lit (.int .u8 19), .lit (.int .u8 16), .lit (.int .u8 7), .lit (.int .u8 26), .lit (.int .u8 12), .lit (.int .u8 18), .lit (.int .u8 6), .lit (.int .u8 11), .lit (.int .u8 5), .lit (.int .u8 10), .lit (.int .u8 9)]
def laid_math_bits_deBruijn64tab {H : Type} : DataW H := .agg [.lit (.int .u8 0), .lit (.int .u8 1), .lit (.int .u8 56), .lit (.int .u8 2), .lit (.int .u8 57), .lit (.int .u8 49), .lit (.int .u8 28), .lit (.int .u8 3), .lit (.int .u8 61), .lit (.int .u8 58), .lit (.int .u8 42), .lit (.int .u8 50), .lit (.int .u8 38), .lit (.int .u8 29), .lit (.int .u8 17), .lit (.int .u8 4), .lit (.int .u8 62), .lit (.int .u8 47), .lit (.int .u8 59), .lit (.int .u8 36), .lit (.int .u8 45), .lit (.int .u8 43), .lit (.int .u8 51), .lit (.int .u8 22), .lit (.int .u8 53), .lit (.int .u8 39), .lit (.int .u8 33), .lit (.int .u8 30), .lit (.int .u8 24), .lit (.int .u8 18), .lit (.int .u8 12), .lit (.int .u8 5), .lit (.int .u8 63), .lit (.int .u8 55), .lit (.int .u8 48), .lit (.int .u8 27), .lit (.int .u8 60), .lit (.int .u8 41), .lit (.int .u8 37), .lit (.int .u8 16), .lit (.int .u8 46), .lit (.int .u8 35), .lit (.int .u8 44), .lit (.int .u8 21), .lit (.int .u8 52), .lit (.int .u8 32), .lit (.int .u8 23), .lit (.int .u8 11), .lit (.int .u8 54), .lit (.int .u8 26), .lit (.int .u8 40), .lit (.int .u8 15), .lit (.int .u8 34), .lit (.int .u8 20), .lit (.int .u8 31), .lit (.int .u8 10), .lit (.int .u8 25), .lit (.int .u8 14), .lit (.int .u8 19), .lit (.int .u8 9), .lit (.int .u8 13), .lit (.int .u8 8), .lit (.int .u8 7), .lit (.int .u8 6)]
def laid_internal_strconv_uint64pow10 {H : Type} : DataW H := .agg [.lit (.int .u64 1), .lit (.int .u64 10), .lit (.int .u64 100), .lit (.int .u64 1000), .lit (.int .u64 10000), .lit (.int .u64 100000), .lit (.int .u64 1000000), .lit (.int .u64 10000000), .lit (.int .u64 100000000), .lit (.int .u64 1000000000), .lit (.int .u64 10000000000), .lit (.int .u64 100000000000), .lit (.int .u64 1000000000000), .lit (.int .u64 10000000000000), .lit (.int .u64 100000000000000), .lit (.int .u64 1000000000000000), .lit (.int .u64 10000000000000000), .lit (.int .u64 100000000000000000), .lit (.int .u64 1000000000000000000), .lit (.int .u64 10000000000000000000)]
def laid_strconv_ErrRange {H : Type} : DataW H := .iface "*errors.errorString" (.ptr (.agg [.lit (.string [118, 97, 108, 117, 101, 32, 111, 117, 116, 32, 111, 102, 32, 114, 97, 110, 103, 101])]))
def laid_strconv_ErrSyntax {H : Type} : DataW H := .iface "*errors.errorString" (.ptr (.agg [.lit (.string [105, 110, 118, 97, 108, 105, 100, 32, 115, 121, 110, 116, 97, 120])]))

/-- 'framewiselaw25.TermAlpha': WHATEVER THE INPUT: true; the input reads as it did. -/
def termAlphaSpec : ChangeSpec := { name := "termAlpha", fn := fun _ => fun
  | [d1, d2, d3] => { results := [.lit (.bool true)], args := [d1, d2, d3] }
  | _ => none }
def termAlphaRow : OpenClaim := { program := "ytgdebdgkofkeeaagreatdoor", sum := "d2a538de22d47774da9aa4f56f669180304974c03bd6ea8a3285e993c247575d", func := "framewise/framewiselaw25.TermAlpha", spec := "termAlpha", inPlace := ["internal/bytealg.IndexByteString", "internal/bytealg.IndexString", "maps.clone", "internal/bytealg.abigen_runtime_cmpstring"], unfollowed := true, recurses := true, named := ["strconv.ErrSyntax", "strconv.ErrRange", "internal/strconv.uint64pow10", "math/bits.deBruijn32tab", "math/bits.deBruijn64tab", "internal/bytealg.MaxLen"], loops := true, apart := false, laid := [("math/bits.deBruijn32tab", laid_math_bits_deBruijn32tab), ("math/bits.deBruijn64tab", laid_math_bits_deBruijn64tab), ("internal/strconv.uint64pow10", laid_internal_strconv_uint64pow10), ("strconv.ErrRange", laid_strconv_ErrRange), ("strconv.ErrSyntax", laid_strconv_ErrSyntax)] }
def TermAlphaSaid : Prop := termAlphaRow.holds Tryz.pinned (OpenSpec.ofChange termAlphaSpec)

/-- ITS FALSE NEIGHBOUR: 'it returns false'. Refute it at one input. -/
def termAlphaWrong : ChangeSpec := { name := "termAlpha", fn := fun _ => fun
  | [d1, d2, d3] => { results := [.lit (.bool false)], args := [d1, d2, d3] }
  | _ => none }
def TermAlphaWrongFalsely : Prop := termAlphaRow.holds Tryz.pinned (OpenSpec.ofChange termAlphaWrong)

/-- 'framewiselaw25.TermValid': WHATEVER THE INPUT: true; the input reads as it did. -/
def termValidSpec : ChangeSpec := { name := "termValid", fn := fun _ => fun
  | [d1, d2] => { results := [.lit (.bool true)], args := [d1, d2] }
  | _ => none }
def termValidRow : OpenClaim := { program := "ytgdebdgkofkeeaagreatdoor", sum := "d2a538de22d47774da9aa4f56f669180304974c03bd6ea8a3285e993c247575d", func := "framewise/framewiselaw25.TermValid", spec := "termValid", inPlace := ["internal/bytealg.IndexByteString", "internal/bytealg.IndexString", "maps.clone", "internal/bytealg.abigen_runtime_cmpstring"], unfollowed := true, recurses := true, named := ["strconv.ErrSyntax", "strconv.ErrRange", "internal/strconv.uint64pow10", "math/bits.deBruijn32tab", "math/bits.deBruijn64tab", "internal/bytealg.MaxLen"], loops := true, apart := false, laid := [("math/bits.deBruijn32tab", laid_math_bits_deBruijn32tab), ("math/bits.deBruijn64tab", laid_math_bits_deBruijn64tab), ("internal/strconv.uint64pow10", laid_internal_strconv_uint64pow10), ("strconv.ErrRange", laid_strconv_ErrRange), ("strconv.ErrSyntax", laid_strconv_ErrSyntax)] }
def TermValidSaid : Prop := termValidRow.holds Tryz.pinned (OpenSpec.ofChange termValidSpec)

/-- ITS FALSE NEIGHBOUR: 'it returns false'. Refute it at one input. -/
def termValidWrong : ChangeSpec := { name := "termValid", fn := fun _ => fun
  | [d1, d2] => { results := [.lit (.bool false)], args := [d1, d2] }
  | _ => none }
def TermValidWrongFalsely : Prop := termValidRow.holds Tryz.pinned (OpenSpec.ofChange termValidWrong)

/-- 'framewiselaw25.TermGreat': WHATEVER THE INPUT: true; the input reads as it did. -/
def termGreatSpec : ChangeSpec := { name := "termGreat", fn := fun _ => fun
  | [d1, d2, d3] => { results := [.lit (.bool true)], args := [d1, d2, d3] }
  | _ => none }
def termGreatRow : OpenClaim := { program := "ytgdebdgkofkeeaagreatdoor", sum := "d2a538de22d47774da9aa4f56f669180304974c03bd6ea8a3285e993c247575d", func := "framewise/framewiselaw25.TermGreat", spec := "termGreat", inPlace := ["internal/bytealg.IndexByteString", "internal/bytealg.IndexString", "maps.clone", "internal/bytealg.abigen_runtime_cmpstring"], unfollowed := true, recurses := true, named := ["strconv.ErrSyntax", "strconv.ErrRange", "internal/strconv.uint64pow10", "math/bits.deBruijn32tab", "math/bits.deBruijn64tab", "internal/bytealg.MaxLen"], loops := true, apart := false, laid := [("math/bits.deBruijn32tab", laid_math_bits_deBruijn32tab), ("math/bits.deBruijn64tab", laid_math_bits_deBruijn64tab), ("internal/strconv.uint64pow10", laid_internal_strconv_uint64pow10), ("strconv.ErrRange", laid_strconv_ErrRange), ("strconv.ErrSyntax", laid_strconv_ErrSyntax)] }
def TermGreatSaid : Prop := termGreatRow.holds Tryz.pinned (OpenSpec.ofChange termGreatSpec)

/-- ITS FALSE NEIGHBOUR: 'it returns false'. Refute it at one input. -/
def termGreatWrong : ChangeSpec := { name := "termGreat", fn := fun _ => fun
  | [d1, d2, d3] => { results := [.lit (.bool false)], args := [d1, d2, d3] }
  | _ => none }
def TermGreatWrongFalsely : Prop := termGreatRow.holds Tryz.pinned (OpenSpec.ofChange termGreatWrong)

/-- 'framewiselaw25.TermStandard': WHATEVER THE INPUT: true; the input reads as it did. -/
def termStandardSpec : ChangeSpec := { name := "termStandard", fn := fun _ => fun
  | [d] => { results := [.lit (.bool true)], args := [d] }
  | _ => none }
def termStandardRow : OpenClaim := { program := "ytgdebdgkofkeeaagreatdoor", sum := "d2a538de22d47774da9aa4f56f669180304974c03bd6ea8a3285e993c247575d", func := "framewise/framewiselaw25.TermStandard", spec := "termStandard", inPlace := ["internal/bytealg.IndexByteString", "internal/bytealg.IndexString", "maps.clone", "internal/bytealg.abigen_runtime_cmpstring"], unfollowed := true, recurses := true, named := ["strconv.ErrSyntax", "strconv.ErrRange", "internal/strconv.uint64pow10", "math/bits.deBruijn32tab", "math/bits.deBruijn64tab", "internal/bytealg.MaxLen"], loops := true, apart := false, laid := [("math/bits.deBruijn32tab", laid_math_bits_deBruijn32tab), ("math/bits.deBruijn64tab", laid_math_bits_deBruijn64tab), ("internal/strconv.uint64pow10", laid_internal_strconv_uint64pow10), ("strconv.ErrRange", laid_strconv_ErrRange), ("strconv.ErrSyntax", laid_strconv_ErrSyntax)] }
def TermStandardSaid : Prop := termStandardRow.holds Tryz.pinned (OpenSpec.ofChange termStandardSpec)

/-- ITS FALSE NEIGHBOUR: 'it returns false'. Refute it at one input. -/
def termStandardWrong : ChangeSpec := { name := "termStandard", fn := fun _ => fun
  | [d] => { results := [.lit (.bool false)], args := [d] }
  | _ => none }
def TermStandardWrongFalsely : Prop := termStandardRow.holds Tryz.pinned (OpenSpec.ofChange termStandardWrong)

/-- 'framewiselaw25.TermNodes': WHATEVER THE INPUT: true; the input reads as it did. -/
def termNodesSpec : ChangeSpec := { name := "termNodes", fn := fun _ => fun
  | [d] => { results := [.lit (.bool true)], args := [d] }
  | _ => none }
def termNodesRow : OpenClaim := { program := "ytgdebdgkofkeeaagreatdoor", sum := "d2a538de22d47774da9aa4f56f669180304974c03bd6ea8a3285e993c247575d", func := "framewise/framewiselaw25.TermNodes", spec := "termNodes", inPlace := ["internal/bytealg.IndexByteString", "internal/bytealg.IndexString", "maps.clone", "internal/bytealg.abigen_runtime_cmpstring"], unfollowed := true, recurses := true, named := ["strconv.ErrSyntax", "strconv.ErrRange", "internal/strconv.uint64pow10", "math/bits.deBruijn32tab", "math/bits.deBruijn64tab", "internal/bytealg.MaxLen"], loops := true, apart := false, laid := [("math/bits.deBruijn32tab", laid_math_bits_deBruijn32tab), ("math/bits.deBruijn64tab", laid_math_bits_deBruijn64tab), ("internal/strconv.uint64pow10", laid_internal_strconv_uint64pow10), ("strconv.ErrRange", laid_strconv_ErrRange), ("strconv.ErrSyntax", laid_strconv_ErrSyntax)] }
def TermNodesSaid : Prop := termNodesRow.holds Tryz.pinned (OpenSpec.ofChange termNodesSpec)

/-- ITS FALSE NEIGHBOUR: 'it returns false'. Refute it at one input. -/
def termNodesWrong : ChangeSpec := { name := "termNodes", fn := fun _ => fun
  | [d] => { results := [.lit (.bool false)], args := [d] }
  | _ => none }
def TermNodesWrongFalsely : Prop := termNodesRow.holds Tryz.pinned (OpenSpec.ofChange termNodesWrong)

/-- 'framewiselaw25.TermUnion': WHATEVER THE INPUT: true; the input reads as it did. -/
def termUnionSpec : ChangeSpec := { name := "termUnion", fn := fun _ => fun
  | [d1, d2, d3] => { results := [.lit (.bool true)], args := [d1, d2, d3] }
  | _ => none }
def termUnionRow : OpenClaim := { program := "ytgdebdgkofkeeaagreatdoor", sum := "d2a538de22d47774da9aa4f56f669180304974c03bd6ea8a3285e993c247575d", func := "framewise/framewiselaw25.TermUnion", spec := "termUnion", inPlace := ["internal/bytealg.IndexByteString", "internal/bytealg.IndexString", "maps.clone", "internal/bytealg.abigen_runtime_cmpstring"], unfollowed := true, recurses := true, named := ["strconv.ErrSyntax", "strconv.ErrRange", "internal/strconv.uint64pow10", "math/bits.deBruijn32tab", "math/bits.deBruijn64tab", "internal/bytealg.MaxLen"], loops := true, apart := false, laid := [("math/bits.deBruijn32tab", laid_math_bits_deBruijn32tab), ("math/bits.deBruijn64tab", laid_math_bits_deBruijn64tab), ("internal/strconv.uint64pow10", laid_internal_strconv_uint64pow10), ("strconv.ErrRange", laid_strconv_ErrRange), ("strconv.ErrSyntax", laid_strconv_ErrSyntax)] }
def TermUnionSaid : Prop := termUnionRow.holds Tryz.pinned (OpenSpec.ofChange termUnionSpec)

/-- ITS FALSE NEIGHBOUR: 'it returns false'. Refute it at one input. -/
def termUnionWrong : ChangeSpec := { name := "termUnion", fn := fun _ => fun
  | [d1, d2, d3] => { results := [.lit (.bool false)], args := [d1, d2, d3] }
  | _ => none }
def TermUnionWrongFalsely : Prop := termUnionRow.holds Tryz.pinned (OpenSpec.ofChange termUnionWrong)

/-- 'framewiselaw25.TermReplace': WHATEVER THE INPUT: true; the input reads as it did. -/
def termReplaceSpec : ChangeSpec := { name := "termReplace", fn := fun _ => fun
  | [d1, d2, d3] => { results := [.lit (.bool true)], args := [d1, d2, d3] }
  | _ => none }
def termReplaceRow : OpenClaim := { program := "ytgdebdgkofkeeaagreatdoor", sum := "d2a538de22d47774da9aa4f56f669180304974c03bd6ea8a3285e993c247575d", func := "framewise/framewiselaw25.TermReplace", spec := "termReplace", inPlace := ["internal/bytealg.IndexByteString", "internal/bytealg.IndexString", "maps.clone", "internal/bytealg.abigen_runtime_cmpstring"], unfollowed := true, recurses := true, named := ["strconv.ErrSyntax", "strconv.ErrRange", "internal/strconv.uint64pow10", "math/bits.deBruijn32tab", "math/bits.deBruijn64tab", "internal/bytealg.MaxLen"], loops := true, apart := false, laid := [("math/bits.deBruijn32tab", laid_math_bits_deBruijn32tab), ("math/bits.deBruijn64tab", laid_math_bits_deBruijn64tab), ("internal/strconv.uint64pow10", laid_internal_strconv_uint64pow10), ("strconv.ErrRange", laid_strconv_ErrRange), ("strconv.ErrSyntax", laid_strconv_ErrSyntax)] }
def TermReplaceSaid : Prop := termReplaceRow.holds Tryz.pinned (OpenSpec.ofChange termReplaceSpec)

/-- ITS FALSE NEIGHBOUR: 'it returns false'. Refute it at one input. -/
def termReplaceWrong : ChangeSpec := { name := "termReplace", fn := fun _ => fun
  | [d1, d2, d3] => { results := [.lit (.bool false)], args := [d1, d2, d3] }
  | _ => none }
def TermReplaceWrongFalsely : Prop := termReplaceRow.holds Tryz.pinned (OpenSpec.ofChange termReplaceWrong)

/-- 'framewiselaw25.TermNames': WHATEVER THE INPUT: true; the input reads as it did. -/
def termNamesSpec : ChangeSpec := { name := "termNames", fn := fun _ => fun
  | [d] => { results := [.lit (.bool true)], args := [d] }
  | _ => none }
def termNamesRow : OpenClaim := { program := "ytgdebdgkofkeeaagreatdoor", sum := "d2a538de22d47774da9aa4f56f669180304974c03bd6ea8a3285e993c247575d", func := "framewise/framewiselaw25.TermNames", spec := "termNames", inPlace := ["internal/bytealg.IndexByteString", "internal/bytealg.IndexString", "maps.clone", "internal/bytealg.abigen_runtime_cmpstring"], unfollowed := true, recurses := true, named := ["strconv.ErrSyntax", "strconv.ErrRange", "internal/strconv.uint64pow10", "math/bits.deBruijn32tab", "math/bits.deBruijn64tab", "internal/bytealg.MaxLen"], loops := true, apart := false, laid := [("math/bits.deBruijn32tab", laid_math_bits_deBruijn32tab), ("math/bits.deBruijn64tab", laid_math_bits_deBruijn64tab), ("internal/strconv.uint64pow10", laid_internal_strconv_uint64pow10), ("strconv.ErrRange", laid_strconv_ErrRange), ("strconv.ErrSyntax", laid_strconv_ErrSyntax)] }
def TermNamesSaid : Prop := termNamesRow.holds Tryz.pinned (OpenSpec.ofChange termNamesSpec)

/-- ITS FALSE NEIGHBOUR: 'it returns false'. Refute it at one input. -/
def termNamesWrong : ChangeSpec := { name := "termNames", fn := fun _ => fun
  | [d] => { results := [.lit (.bool false)], args := [d] }
  | _ => none }
def TermNamesWrongFalsely : Prop := termNamesRow.holds Tryz.pinned (OpenSpec.ofChange termNamesWrong)

/-- 'framewiselaw25.TermParts': WHATEVER THE INPUT: true; the input reads as it did. -/
def termPartsSpec : ChangeSpec := { name := "termParts", fn := fun _ => fun
  | [d1, d2, d3] => { results := [.lit (.bool true)], args := [d1, d2, d3] }
  | _ => none }
def termPartsRow : OpenClaim := { program := "ytgdebdgkofkeeaagreatdoor", sum := "d2a538de22d47774da9aa4f56f669180304974c03bd6ea8a3285e993c247575d", func := "framewise/framewiselaw25.TermParts", spec := "termParts", inPlace := ["internal/bytealg.IndexByteString", "internal/bytealg.IndexString", "maps.clone", "internal/bytealg.abigen_runtime_cmpstring"], unfollowed := true, recurses := true, named := ["strconv.ErrSyntax", "strconv.ErrRange", "internal/strconv.uint64pow10", "math/bits.deBruijn32tab", "math/bits.deBruijn64tab", "internal/bytealg.MaxLen"], loops := true, apart := false, laid := [("math/bits.deBruijn32tab", laid_math_bits_deBruijn32tab), ("math/bits.deBruijn64tab", laid_math_bits_deBruijn64tab), ("internal/strconv.uint64pow10", laid_internal_strconv_uint64pow10), ("strconv.ErrRange", laid_strconv_ErrRange), ("strconv.ErrSyntax", laid_strconv_ErrSyntax)] }
def TermPartsSaid : Prop := termPartsRow.holds Tryz.pinned (OpenSpec.ofChange termPartsSpec)

/-- ITS FALSE NEIGHBOUR: 'it returns false'. Refute it at one input. -/
def termPartsWrong : ChangeSpec := { name := "termParts", fn := fun _ => fun
  | [d1, d2, d3] => { results := [.lit (.bool false)], args := [d1, d2, d3] }
  | _ => none }
def TermPartsWrongFalsely : Prop := termPartsRow.holds Tryz.pinned (OpenSpec.ofChange termPartsWrong)

/- THE SECOND FORM. 'bulk': how many values and letters a reading holds, each counted each time it is reached (what is shared counts as often as it is met; a slice's spare places count too). A statement '..UptoSaid' is the law's where the arguments, and the package variables that the reading takes, are together of bulk at most 1048576: NARROWER than '..Said'. Prove '..Said' where nothing that the law and all that it calls make is longer than what came in: it says more and counts as full. Else prove '..UptoSaid'. A law counts once. -/
mutual
def uptoBulk {H : Type} : DataW H → Nat
  | .lit (.string bytes) => bytes.length + 1
  | .lit _ => 1
  | .nil => 1
  | .ptr d => uptoBulk d + 1
  | .slice elems spare => uptoBulkAll elems + uptoBulkAll spare + 1
  | .agg parts => uptoBulkAll parts + 1
  | .iface _ d => uptoBulk d + 1
  | .map entries => uptoBulkEntries entries + 1
  | .held _ => 1
def uptoBulkAll {H : Type} : List (DataW H) → Nat
  | [] => 0
  | d :: r => uptoBulk d + uptoBulkAll r
def uptoBulkEntries {H : Type} : List (Lit × DataW H) → Nat
  | [] => 0
  | x :: r => uptoBulkEntry x + uptoBulkEntries r
def uptoBulkEntry {H : Type} : Lit × DataW H → Nat
  | (.string bytes, d) => bytes.length + uptoBulk d + 1
  | (_, d) => uptoBulk d + 1
 end
def uptoSmall : (H : Type) → List (DataW H) → Bool := fun _ ds => decide (uptoBulkAll ds ≤ 1048576)
def OpenSpec.upto (s : _root_.Go.ChangeSpec) : _root_.Go.OpenSpec := { _root_.Go.OpenSpec.ofChange s with cond := some uptoSmall }

/-- 'framewiselaw25.TermAlpha', WHERE WHAT IT READS IS OF BULK AT MOST 1048576: true; the input reads as it did. -/
def termAlphaUptoRow : OpenClaim := { program := "ytgdebdgkofkeeaagreatdoor", sum := "d2a538de22d47774da9aa4f56f669180304974c03bd6ea8a3285e993c247575d", func := "framewise/framewiselaw25.TermAlpha", spec := "termAlpha", inPlace := ["internal/bytealg.IndexByteString", "internal/bytealg.IndexString", "maps.clone", "internal/bytealg.abigen_runtime_cmpstring"], unfollowed := true, recurses := true, named := ["strconv.ErrSyntax", "strconv.ErrRange", "internal/strconv.uint64pow10", "math/bits.deBruijn32tab", "math/bits.deBruijn64tab", "internal/bytealg.MaxLen"], loops := true, apart := false, laid := [("math/bits.deBruijn32tab", laid_math_bits_deBruijn32tab), ("math/bits.deBruijn64tab", laid_math_bits_deBruijn64tab), ("internal/strconv.uint64pow10", laid_internal_strconv_uint64pow10), ("strconv.ErrRange", laid_strconv_ErrRange), ("strconv.ErrSyntax", laid_strconv_ErrSyntax)], narrowed := true }
def TermAlphaUptoSaid : Prop := termAlphaUptoRow.holds Tryz.pinned (OpenSpec.upto termAlphaSpec)

/-- 'framewiselaw25.TermValid', WHERE WHAT IT READS IS OF BULK AT MOST 1048576: true; the input reads as it did. -/
def termValidUptoRow : OpenClaim := { program := "ytgdebdgkofkeeaagreatdoor", sum := "d2a538de22d47774da9aa4f56f669180304974c03bd6ea8a3285e993c247575d", func := "framewise/framewiselaw25.TermValid", spec := "termValid", inPlace := ["internal/bytealg.IndexByteString", "internal/bytealg.IndexString", "maps.clone", "internal/bytealg.abigen_runtime_cmpstring"], unfollowed := true, recurses := true, named := ["strconv.ErrSyntax", "strconv.ErrRange", "internal/strconv.uint64pow10", "math/bits.deBruijn32tab", "math/bits.deBruijn64tab", "internal/bytealg.MaxLen"], loops := true, apart := false, laid := [("math/bits.deBruijn32tab", laid_math_bits_deBruijn32tab), ("math/bits.deBruijn64tab", laid_math_bits_deBruijn64tab), ("internal/strconv.uint64pow10", laid_internal_strconv_uint64pow10), ("strconv.ErrRange", laid_strconv_ErrRange), ("strconv.ErrSyntax", laid_strconv_ErrSyntax)], narrowed := true }
def TermValidUptoSaid : Prop := termValidUptoRow.holds Tryz.pinned (OpenSpec.upto termValidSpec)

/-- 'framewiselaw25.TermGreat', WHERE WHAT IT READS IS OF BULK AT MOST 1048576: true; the input reads as it did. -/
def termGreatUptoRow : OpenClaim := { program := "ytgdebdgkofkeeaagreatdoor", sum := "d2a538de22d47774da9aa4f56f669180304974c03bd6ea8a3285e993c247575d", func := "framewise/framewiselaw25.TermGreat", spec := "termGreat", inPlace := ["internal/bytealg.IndexByteString", "internal/bytealg.IndexString", "maps.clone", "internal/bytealg.abigen_runtime_cmpstring"], unfollowed := true, recurses := true, named := ["strconv.ErrSyntax", "strconv.ErrRange", "internal/strconv.uint64pow10", "math/bits.deBruijn32tab", "math/bits.deBruijn64tab", "internal/bytealg.MaxLen"], loops := true, apart := false, laid := [("math/bits.deBruijn32tab", laid_math_bits_deBruijn32tab), ("math/bits.deBruijn64tab", laid_math_bits_deBruijn64tab), ("internal/strconv.uint64pow10", laid_internal_strconv_uint64pow10), ("strconv.ErrRange", laid_strconv_ErrRange), ("strconv.ErrSyntax", laid_strconv_ErrSyntax)], narrowed := true }
def TermGreatUptoSaid : Prop := termGreatUptoRow.holds Tryz.pinned (OpenSpec.upto termGreatSpec)

/-- 'framewiselaw25.TermStandard', WHERE WHAT IT READS IS OF BULK AT MOST 1048576: true; the input reads as it did. -/
def termStandardUptoRow : OpenClaim := { program := "ytgdebdgkofkeeaagreatdoor", sum := "d2a538de22d47774da9aa4f56f669180304974c03bd6ea8a3285e993c247575d", func := "framewise/framewiselaw25.TermStandard", spec := "termStandard", inPlace := ["internal/bytealg.IndexByteString", "internal/bytealg.IndexString", "maps.clone", "internal/bytealg.abigen_runtime_cmpstring"], unfollowed := true, recurses := true, named := ["strconv.ErrSyntax", "strconv.ErrRange", "internal/strconv.uint64pow10", "math/bits.deBruijn32tab", "math/bits.deBruijn64tab", "internal/bytealg.MaxLen"], loops := true, apart := false, laid := [("math/bits.deBruijn32tab", laid_math_bits_deBruijn32tab), ("math/bits.deBruijn64tab", laid_math_bits_deBruijn64tab), ("internal/strconv.uint64pow10", laid_internal_strconv_uint64pow10), ("strconv.ErrRange", laid_strconv_ErrRange), ("strconv.ErrSyntax", laid_strconv_ErrSyntax)], narrowed := true }
def TermStandardUptoSaid : Prop := termStandardUptoRow.holds Tryz.pinned (OpenSpec.upto termStandardSpec)

/-- 'framewiselaw25.TermNodes', WHERE WHAT IT READS IS OF BULK AT MOST 1048576: true; the input reads as it did. -/
def termNodesUptoRow : OpenClaim := { program := "ytgdebdgkofkeeaagreatdoor", sum := "d2a538de22d47774da9aa4f56f669180304974c03bd6ea8a3285e993c247575d", func := "framewise/framewiselaw25.TermNodes", spec := "termNodes", inPlace := ["internal/bytealg.IndexByteString", "internal/bytealg.IndexString", "maps.clone", "internal/bytealg.abigen_runtime_cmpstring"], unfollowed := true, recurses := true, named := ["strconv.ErrSyntax", "strconv.ErrRange", "internal/strconv.uint64pow10", "math/bits.deBruijn32tab", "math/bits.deBruijn64tab", "internal/bytealg.MaxLen"], loops := true, apart := false, laid := [("math/bits.deBruijn32tab", laid_math_bits_deBruijn32tab), ("math/bits.deBruijn64tab", laid_math_bits_deBruijn64tab), ("internal/strconv.uint64pow10", laid_internal_strconv_uint64pow10), ("strconv.ErrRange", laid_strconv_ErrRange), ("strconv.ErrSyntax", laid_strconv_ErrSyntax)], narrowed := true }
def TermNodesUptoSaid : Prop := termNodesUptoRow.holds Tryz.pinned (OpenSpec.upto termNodesSpec)

/-- 'framewiselaw25.TermUnion', WHERE WHAT IT READS IS OF BULK AT MOST 1048576: true; the input reads as it did. -/
def termUnionUptoRow : OpenClaim := { program := "ytgdebdgkofkeeaagreatdoor", sum := "d2a538de22d47774da9aa4f56f669180304974c03bd6ea8a3285e993c247575d", func := "framewise/framewiselaw25.TermUnion", spec := "termUnion", inPlace := ["internal/bytealg.IndexByteString", "internal/bytealg.IndexString", "maps.clone", "internal/bytealg.abigen_runtime_cmpstring"], unfollowed := true, recurses := true, named := ["strconv.ErrSyntax", "strconv.ErrRange", "internal/strconv.uint64pow10", "math/bits.deBruijn32tab", "math/bits.deBruijn64tab", "internal/bytealg.MaxLen"], loops := true, apart := false, laid := [("math/bits.deBruijn32tab", laid_math_bits_deBruijn32tab), ("math/bits.deBruijn64tab", laid_math_bits_deBruijn64tab), ("internal/strconv.uint64pow10", laid_internal_strconv_uint64pow10), ("strconv.ErrRange", laid_strconv_ErrRange), ("strconv.ErrSyntax", laid_strconv_ErrSyntax)], narrowed := true }
def TermUnionUptoSaid : Prop := termUnionUptoRow.holds Tryz.pinned (OpenSpec.upto termUnionSpec)

/-- 'framewiselaw25.TermReplace', WHERE WHAT IT READS IS OF BULK AT MOST 1048576: true; the input reads as it did. -/
def termReplaceUptoRow : OpenClaim := { program := "ytgdebdgkofkeeaagreatdoor", sum := "d2a538de22d47774da9aa4f56f669180304974c03bd6ea8a3285e993c247575d", func := "framewise/framewiselaw25.TermReplace", spec := "termReplace", inPlace := ["internal/bytealg.IndexByteString", "internal/bytealg.IndexString", "maps.clone", "internal/bytealg.abigen_runtime_cmpstring"], unfollowed := true, recurses := true, named := ["strconv.ErrSyntax", "strconv.ErrRange", "internal/strconv.uint64pow10", "math/bits.deBruijn32tab", "math/bits.deBruijn64tab", "internal/bytealg.MaxLen"], loops := true, apart := false, laid := [("math/bits.deBruijn32tab", laid_math_bits_deBruijn32tab), ("math/bits.deBruijn64tab", laid_math_bits_deBruijn64tab), ("internal/strconv.uint64pow10", laid_internal_strconv_uint64pow10), ("strconv.ErrRange", laid_strconv_ErrRange), ("strconv.ErrSyntax", laid_strconv_ErrSyntax)], narrowed := true }
def TermReplaceUptoSaid : Prop := termReplaceUptoRow.holds Tryz.pinned (OpenSpec.upto termReplaceSpec)

/-- 'framewiselaw25.TermNames', WHERE WHAT IT READS IS OF BULK AT MOST 1048576: true; the input reads as it did. -/
def termNamesUptoRow : OpenClaim := { program := "ytgdebdgkofkeeaagreatdoor", sum := "d2a538de22d47774da9aa4f56f669180304974c03bd6ea8a3285e993c247575d", func := "framewise/framewiselaw25.TermNames", spec := "termNames", inPlace := ["internal/bytealg.IndexByteString", "internal/bytealg.IndexString", "maps.clone", "internal/bytealg.abigen_runtime_cmpstring"], unfollowed := true, recurses := true, named := ["strconv.ErrSyntax", "strconv.ErrRange", "internal/strconv.uint64pow10", "math/bits.deBruijn32tab", "math/bits.deBruijn64tab", "internal/bytealg.MaxLen"], loops := true, apart := false, laid := [("math/bits.deBruijn32tab", laid_math_bits_deBruijn32tab), ("math/bits.deBruijn64tab", laid_math_bits_deBruijn64tab), ("internal/strconv.uint64pow10", laid_internal_strconv_uint64pow10), ("strconv.ErrRange", laid_strconv_ErrRange), ("strconv.ErrSyntax", laid_strconv_ErrSyntax)], narrowed := true }
def TermNamesUptoSaid : Prop := termNamesUptoRow.holds Tryz.pinned (OpenSpec.upto termNamesSpec)

/-- 'framewiselaw25.TermParts', WHERE WHAT IT READS IS OF BULK AT MOST 1048576: true; the input reads as it did. -/
def termPartsUptoRow : OpenClaim := { program := "ytgdebdgkofkeeaagreatdoor", sum := "d2a538de22d47774da9aa4f56f669180304974c03bd6ea8a3285e993c247575d", func := "framewise/framewiselaw25.TermParts", spec := "termParts", inPlace := ["internal/bytealg.IndexByteString", "internal/bytealg.IndexString", "maps.clone", "internal/bytealg.abigen_runtime_cmpstring"], unfollowed := true, recurses := true, named := ["strconv.ErrSyntax", "strconv.ErrRange", "internal/strconv.uint64pow10", "math/bits.deBruijn32tab", "math/bits.deBruijn64tab", "internal/bytealg.MaxLen"], loops := true, apart := false, laid := [("math/bits.deBruijn32tab", laid_math_bits_deBruijn32tab), ("math/bits.deBruijn64tab", laid_math_bits_deBruijn64tab), ("internal/strconv.uint64pow10", laid_internal_strconv_uint64pow10), ("strconv.ErrRange", laid_strconv_ErrRange), ("strconv.ErrSyntax", laid_strconv_ErrSyntax)], narrowed := true }
def TermPartsUptoSaid : Prop := termPartsUptoRow.holds Tryz.pinned (OpenSpec.upto termPartsSpec)

end Rows
end Go.Proofs.YtgdebdgkofkeeaaGreatDoor

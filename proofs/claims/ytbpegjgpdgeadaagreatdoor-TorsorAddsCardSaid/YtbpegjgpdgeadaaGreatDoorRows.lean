/-
  NARROWER THAN 'FOR EVERY INPUT', by the rows' own cells (each row's printed sentence says how): TorsorApplies: laid · TorsorForms: laid · TorsorTurns: laid · TorsorKeeps: laid · TorsorAdds: laid · MatrixReduces: laid · MatrixInverts: laid · MatrixSolves: laid · MatrixMakes: laid · MatrixAnswers: laid · MatrixUndoes: laid · MatrixSpans: laid · MatrixDetermines: laid · MatrixMultiplies: laid · TorsorFits: laid · TorsorMeets: laid.
  DERIVED. THE GIVEN ROWS OF THIS SEAT. 16 by the template 'for every input the law returns true; each argument reads behind the call as it read before'; 0 by the template 'total and deterministic' (their statements: YtbpegjgpdgeadaaGreatDoorTotals.lean).
  GIVEN WITH THE SEED: the statements are not yours to turn. If you find one false, say at which input.
  Laid BY PROGRAM, IN A SANDBOX (cutbox-rows.mjs): the forced cells as the released guide's own fill.sh prints them over the translation 3efcf3b2386ca292… (all of the seat's roots in one cut). By AI agents, Wed Nov 11 2026. No macro, syntax, notation, axiom, sorry.
-/
import Derived.Test.YtbpegjgpdgeadaaGreatDoorChecked
import GoSem.PinnedTables
import GoSem.Claim
import GoSem.ClaimJoined
import GoSem.ClaimMapViews
import Derived.JoinedTies
import Derived.KernelRfl
namespace Go.Proofs.YtbpegjgpdgeadaaGreatDoor
/- THE CELL 'sum', in the pinned program and in every row, IS THE sha256 OF THE DUMP (.gsa) THAT YtbpegjgpdgeadaaGreatDoorProg.lean LOADS. Nothing in Lean hashes anything: it is a label: what it is worth is what the hold of that sum in a sandbox is worth. -/
noncomputable def Tryz.pinned : Pinned := { name := "ytbpegjgpdgeadaagreatdoor", sum := "3efcf3b2386ca292e55c71865eb8ca2d9e5dbca36dc873c95c9f0ce090540190", checked := Tryz.checked }
namespace Rows
def none {H : Type} : Left H := { results := [], args := [] }

/- WHAT THE LISTED PACKAGE-LEVEL VARIABLES READ AS WHEN THE CALL BEGINS. Each datum BY PROGRAM (the guide's laid-datum.mjs) off the statement by which the dump's own 'gosem.cut.vars' lays the variable. In a bare row this is a premise. The card (YtbpegjgpdgeadaaGreatDoorCards.lean) ties it to the program's text. -/
def laid_math_bits_deBruijn32tab {H : Type} : DataW H := .agg [.lit (.int .u8 0), .lit (.int .u8 1), .lit (.int .u8 28), .lit (.int .u8 2), .lit (.int .u8 29), .lit (.int .u8 14), .lit (.int .u8 24), .lit (.int .u8 3), .lit (.int .u8 30), .lit (.int .u8 22), .lit (.int .u8 20), .lit (.int .u8 15), .lit (.int .u8 25), .lit (.int .u8 17), .lit (.int .u8 4), .lit (.int .u8 8), .lit (.int .u8 31), .lit (.int .u8 27), .lit (.int .u8 13), .lit (.int .u8 23), .lit (.int .u8 21), .lit (.int .u8 19), .lit (.int .u8 16), .lit (.int .u8 7), .lit (.int .u8 26), .lit (.int .u8 12), .lit (.int .u8 18), .lit (.int .u8 6), .lit (.int .u8 11), .lit (.int .u8 5), .lit (.int .u8 10), .lit (.int .u8 9)]
def laid_math_bits_deBruijn64tab {H : Type} : DataW H := .agg [.lit (.int .u8 0), .lit (.int .u8 1), .lit (.int .u8 56), .lit (.int .u8 2), .lit (.int .u8 57), .lit (.int .u8 49), .lit (.int .u8 28), .lit (.int .u8 3), .lit (.int .u8 61), .lit (.int .u8 58), .lit (.int .u8 42), .lit (.int .u8 50), .lit (.int .u8 38), .lit (.int .u8 29), .lit (.int .u8 17), .lit (.int .u8 4), .lit (.int .u8 62), .lit (.int .u8 47), .lit (.int .u8 59), .lit (.int .u8 36), .lit (.int .u8 45), .lit (.int .u8 43), .lit (.int .u8 51), .lit (.int .u8 22), .lit (.int .u8 53), .lit (.int .u8 39), .lit (.int .u8 33), .lit (.int .u8 30), .lit (.int .u8 24), .lit (.int .u8 18), .lit (.int .u8 12), .lit (.int .u8 5), .lit (.int .u8 63), .lit (.int .u8 55), .lit (.int .u8 48), .lit (.int .u8 27), .lit (.int .u8 60), .lit (.int .u8 41), .lit (.int .u8 37), .lit (.int .u8 16), .lit (.int .u8 46), .lit (.int .u8 35), .lit (.int .u8 44), .lit (.int .u8 21), .lit (.int .u8 52), .lit (.int .u8 32), .lit (.int .u8 23), .lit (.int .u8 11), .lit (.int .u8 54), .lit (.int .u8 26), .lit (.int .u8 40), .lit (.int .u8 15), .lit (.int .u8 34), .lit (.int .u8 20), .lit (.int .u8 31), .lit (.int .u8 10), .lit (.int .u8 25), .lit (.int .u8 14), .lit (.int .u8 19), .lit (.int .u8 9), .lit (.int .u8 13), .lit (.int .u8 8), .lit (.int .u8 7), .lit (.int .u8 6)]
def laid_internal_strconv_uint64pow10 {H : Type} : DataW H := .agg [.lit (.int .u64 1), .lit (.int .u64 10), .lit (.int .u64 100), .lit (.int .u64 1000), .lit (.int .u64 10000), .lit (.int .u64 100000), .lit (.int .u64 1000000), .lit (.int .u64 10000000), .lit (.int .u64 100000000), .lit (.int .u64 1000000000), .lit (.int .u64 10000000000), .lit (.int .u64 100000000000), .lit (.int .u64 1000000000000), .lit (.int .u64 10000000000000), .lit (.int .u64 100000000000000), .lit (.int .u64 1000000000000000), .lit (.int .u64 10000000000000000), .lit (.int .u64 100000000000000000), .lit (.int .u64 1000000000000000000), .lit (.int .u64 10000000000000000000)]
def laid_unicode_utf8_acceptRanges {H : Type} : DataW H := .agg [.agg [.lit (.int .u8 128), .lit (.int .u8 191)], .agg [.lit (.int .u8 160), .lit (.int .u8 191)], .agg [.lit (.int .u8 128), .lit (.int .u8 159)], .agg [.lit (.int .u8 144), .lit (.int .u8 191)], .agg [.lit (.int .u8 128), .lit (.int .u8 143)], .agg [.lit (.int .u8 0), .lit (.int .u8 0)], .agg [.lit (.int .u8 0), .lit (.int .u8 0)], .agg [.lit (.int .u8 0), .lit (.int .u8 0)], .agg [.lit (.int .u8 0), .lit (.int .u8 0)], .agg [.lit (.int .u8 0), .lit (.int .u8 0)], .agg [.lit (.int .u8 0), .lit (.int .u8 0)], .agg [.lit (.int .u8 0), .lit (.int .u8 0)], .agg [.lit (.int .u8 0), .lit (.int .u8 0)], .agg [.lit (.int .u8 0), .lit (.int .u8 0)], .agg [.lit (.int .u8 0), .lit (.int .u8 0)], .agg [.lit (.int .u8 0), .lit (.int .u8 0)]]
def laid_strconv_ErrRange {H : Type} : DataW H := .iface "*errors.errorString" (.ptr (.agg [.lit (.string [118, 97, 108, 117, 101, 32, 111, 117, 116, 32, 111, 102, 32, 114, 97, 110, 103, 101])]))
def laid_strconv_ErrSyntax {H : Type} : DataW H := .iface "*errors.errorString" (.ptr (.agg [.lit (.string [105, 110, 118, 97, 108, 105, 100, 32, 115, 121, 110, 116, 97, 120])]))
/-- One of Go's own tables, pinned by name: the form's constant. -/
def laid_unicode_utf8_first : DataW Unit := Go.Pinned.utf8First

/-- 'metrolablaw40.TorsorApplies': WHATEVER THE INPUT: true; the input reads as it did. -/
def torsorAppliesSpec : ChangeSpec := { name := "torsorApplies", fn := fun _ => fun
  | [d1, d2] => { results := [.lit (.bool true)], args := [d1, d2] }
  | _ => none }
def torsorAppliesRow : OpenClaim := { program := "ytbpegjgpdgeadaagreatdoor", sum := "3efcf3b2386ca292e55c71865eb8ca2d9e5dbca36dc873c95c9f0ce090540190", func := "metrolab/metrolablaw40.TorsorApplies", spec := "torsorApplies", inPlace := ["internal/bytealg.IndexByteString", "internal/bytealg.IndexString", "internal/bytealg.abigen_runtime_cmpstring", "internal/abi.NoEscape"], unfollowed := true, recurses := true, named := ["internal/bytealg.MaxLen", "unicode/utf8.first", "unicode/utf8.acceptRanges", "strconv.ErrSyntax", "strconv.ErrRange", "internal/strconv.uint64pow10", "math/bits.deBruijn32tab", "math/bits.deBruijn64tab"], apart := false, laid := [("math/bits.deBruijn32tab", laid_math_bits_deBruijn32tab), ("math/bits.deBruijn64tab", laid_math_bits_deBruijn64tab), ("internal/strconv.uint64pow10", laid_internal_strconv_uint64pow10), ("unicode/utf8.acceptRanges", laid_unicode_utf8_acceptRanges), ("strconv.ErrRange", laid_strconv_ErrRange), ("strconv.ErrSyntax", laid_strconv_ErrSyntax), ("unicode/utf8.first", laid_unicode_utf8_first)] }
def TorsorAppliesSaid : Prop := torsorAppliesRow.holds Tryz.pinned (OpenSpec.ofChange torsorAppliesSpec)

/-- ITS FALSE NEIGHBOUR: 'it returns false'. Refute it at one input. -/
def torsorAppliesWrong : ChangeSpec := { name := "torsorApplies", fn := fun _ => fun
  | [d1, d2] => { results := [.lit (.bool false)], args := [d1, d2] }
  | _ => none }
def TorsorAppliesWrongFalsely : Prop := torsorAppliesRow.holds Tryz.pinned (OpenSpec.ofChange torsorAppliesWrong)

/-- 'metrolablaw40.TorsorForms': WHATEVER THE INPUT: true; the input reads as it did. -/
def torsorFormsSpec : ChangeSpec := { name := "torsorForms", fn := fun _ => fun
  | [d1, d2, d3] => { results := [.lit (.bool true)], args := [d1, d2, d3] }
  | _ => none }
def torsorFormsRow : OpenClaim := { program := "ytbpegjgpdgeadaagreatdoor", sum := "3efcf3b2386ca292e55c71865eb8ca2d9e5dbca36dc873c95c9f0ce090540190", func := "metrolab/metrolablaw40.TorsorForms", spec := "torsorForms", inPlace := ["internal/bytealg.IndexByteString", "internal/bytealg.IndexString", "internal/bytealg.abigen_runtime_cmpstring", "internal/abi.NoEscape"], unfollowed := true, recurses := true, named := ["internal/bytealg.MaxLen", "unicode/utf8.first", "unicode/utf8.acceptRanges", "strconv.ErrSyntax", "strconv.ErrRange", "internal/strconv.uint64pow10", "math/bits.deBruijn32tab", "math/bits.deBruijn64tab"], apart := false, laid := [("math/bits.deBruijn32tab", laid_math_bits_deBruijn32tab), ("math/bits.deBruijn64tab", laid_math_bits_deBruijn64tab), ("internal/strconv.uint64pow10", laid_internal_strconv_uint64pow10), ("unicode/utf8.acceptRanges", laid_unicode_utf8_acceptRanges), ("strconv.ErrRange", laid_strconv_ErrRange), ("strconv.ErrSyntax", laid_strconv_ErrSyntax), ("unicode/utf8.first", laid_unicode_utf8_first)] }
def TorsorFormsSaid : Prop := torsorFormsRow.holds Tryz.pinned (OpenSpec.ofChange torsorFormsSpec)

/-- ITS FALSE NEIGHBOUR: 'it returns false'. Refute it at one input. -/
def torsorFormsWrong : ChangeSpec := { name := "torsorForms", fn := fun _ => fun
  | [d1, d2, d3] => { results := [.lit (.bool false)], args := [d1, d2, d3] }
  | _ => none }
def TorsorFormsWrongFalsely : Prop := torsorFormsRow.holds Tryz.pinned (OpenSpec.ofChange torsorFormsWrong)

/-- 'metrolablaw40.TorsorTurns': WHATEVER THE INPUT: true; the input reads as it did. -/
def torsorTurnsSpec : ChangeSpec := { name := "torsorTurns", fn := fun _ => fun
  | [d1, d2, d3] => { results := [.lit (.bool true)], args := [d1, d2, d3] }
  | _ => none }
def torsorTurnsRow : OpenClaim := { program := "ytbpegjgpdgeadaagreatdoor", sum := "3efcf3b2386ca292e55c71865eb8ca2d9e5dbca36dc873c95c9f0ce090540190", func := "metrolab/metrolablaw40.TorsorTurns", spec := "torsorTurns", inPlace := ["internal/bytealg.IndexByteString", "internal/bytealg.IndexString", "internal/bytealg.abigen_runtime_cmpstring", "internal/abi.NoEscape"], unfollowed := true, recurses := true, named := ["internal/bytealg.MaxLen", "unicode/utf8.first", "unicode/utf8.acceptRanges", "strconv.ErrSyntax", "strconv.ErrRange", "internal/strconv.uint64pow10", "math/bits.deBruijn32tab", "math/bits.deBruijn64tab"], apart := false, laid := [("math/bits.deBruijn32tab", laid_math_bits_deBruijn32tab), ("math/bits.deBruijn64tab", laid_math_bits_deBruijn64tab), ("internal/strconv.uint64pow10", laid_internal_strconv_uint64pow10), ("unicode/utf8.acceptRanges", laid_unicode_utf8_acceptRanges), ("strconv.ErrRange", laid_strconv_ErrRange), ("strconv.ErrSyntax", laid_strconv_ErrSyntax), ("unicode/utf8.first", laid_unicode_utf8_first)] }
def TorsorTurnsSaid : Prop := torsorTurnsRow.holds Tryz.pinned (OpenSpec.ofChange torsorTurnsSpec)

/-- ITS FALSE NEIGHBOUR: 'it returns false'. Refute it at one input. -/
def torsorTurnsWrong : ChangeSpec := { name := "torsorTurns", fn := fun _ => fun
  | [d1, d2, d3] => { results := [.lit (.bool false)], args := [d1, d2, d3] }
  | _ => none }
def TorsorTurnsWrongFalsely : Prop := torsorTurnsRow.holds Tryz.pinned (OpenSpec.ofChange torsorTurnsWrong)

/-- 'metrolablaw40.TorsorKeeps': WHATEVER THE INPUT: true; the input reads as it did. -/
def torsorKeepsSpec : ChangeSpec := { name := "torsorKeeps", fn := fun _ => fun
  | [d1, d2, d3] => { results := [.lit (.bool true)], args := [d1, d2, d3] }
  | _ => none }
def torsorKeepsRow : OpenClaim := { program := "ytbpegjgpdgeadaagreatdoor", sum := "3efcf3b2386ca292e55c71865eb8ca2d9e5dbca36dc873c95c9f0ce090540190", func := "metrolab/metrolablaw40.TorsorKeeps", spec := "torsorKeeps", inPlace := ["internal/bytealg.IndexByteString", "internal/bytealg.IndexString", "internal/bytealg.abigen_runtime_cmpstring", "internal/abi.NoEscape"], unfollowed := true, recurses := true, named := ["internal/bytealg.MaxLen", "unicode/utf8.first", "unicode/utf8.acceptRanges", "strconv.ErrSyntax", "strconv.ErrRange", "internal/strconv.uint64pow10", "math/bits.deBruijn32tab", "math/bits.deBruijn64tab"], apart := false, laid := [("math/bits.deBruijn32tab", laid_math_bits_deBruijn32tab), ("math/bits.deBruijn64tab", laid_math_bits_deBruijn64tab), ("internal/strconv.uint64pow10", laid_internal_strconv_uint64pow10), ("unicode/utf8.acceptRanges", laid_unicode_utf8_acceptRanges), ("strconv.ErrRange", laid_strconv_ErrRange), ("strconv.ErrSyntax", laid_strconv_ErrSyntax), ("unicode/utf8.first", laid_unicode_utf8_first)] }
def TorsorKeepsSaid : Prop := torsorKeepsRow.holds Tryz.pinned (OpenSpec.ofChange torsorKeepsSpec)

/-- ITS FALSE NEIGHBOUR: 'it returns false'. Refute it at one input. -/
def torsorKeepsWrong : ChangeSpec := { name := "torsorKeeps", fn := fun _ => fun
  | [d1, d2, d3] => { results := [.lit (.bool false)], args := [d1, d2, d3] }
  | _ => none }
def TorsorKeepsWrongFalsely : Prop := torsorKeepsRow.holds Tryz.pinned (OpenSpec.ofChange torsorKeepsWrong)

/-- 'metrolablaw40.TorsorAdds': WHATEVER THE INPUT: true; the input reads as it did. -/
def torsorAddsSpec : ChangeSpec := { name := "torsorAdds", fn := fun _ => fun
  | [d1, d2, d3] => { results := [.lit (.bool true)], args := [d1, d2, d3] }
  | _ => none }
def torsorAddsRow : OpenClaim := { program := "ytbpegjgpdgeadaagreatdoor", sum := "3efcf3b2386ca292e55c71865eb8ca2d9e5dbca36dc873c95c9f0ce090540190", func := "metrolab/metrolablaw40.TorsorAdds", spec := "torsorAdds", inPlace := ["internal/bytealg.IndexByteString", "internal/bytealg.IndexString", "internal/bytealg.abigen_runtime_cmpstring", "internal/abi.NoEscape"], unfollowed := true, recurses := true, named := ["internal/bytealg.MaxLen", "unicode/utf8.first", "unicode/utf8.acceptRanges", "strconv.ErrSyntax", "strconv.ErrRange", "internal/strconv.uint64pow10", "math/bits.deBruijn32tab", "math/bits.deBruijn64tab"], apart := false, laid := [("math/bits.deBruijn32tab", laid_math_bits_deBruijn32tab), ("math/bits.deBruijn64tab", laid_math_bits_deBruijn64tab), ("internal/strconv.uint64pow10", laid_internal_strconv_uint64pow10), ("unicode/utf8.acceptRanges", laid_unicode_utf8_acceptRanges), ("strconv.ErrRange", laid_strconv_ErrRange), ("strconv.ErrSyntax", laid_strconv_ErrSyntax), ("unicode/utf8.first", laid_unicode_utf8_first)] }
def TorsorAddsSaid : Prop := torsorAddsRow.holds Tryz.pinned (OpenSpec.ofChange torsorAddsSpec)

/-- ITS FALSE NEIGHBOUR: 'it returns false'. Refute it at one input. -/
def torsorAddsWrong : ChangeSpec := { name := "torsorAdds", fn := fun _ => fun
  | [d1, d2, d3] => { results := [.lit (.bool false)], args := [d1, d2, d3] }
  | _ => none }
def TorsorAddsWrongFalsely : Prop := torsorAddsRow.holds Tryz.pinned (OpenSpec.ofChange torsorAddsWrong)

/-- 'metrolablaw04.MatrixReduces': WHATEVER THE INPUT: true; the input reads as it did. -/
def matrixReducesSpec : ChangeSpec := { name := "matrixReduces", fn := fun _ => fun
  | [d] => { results := [.lit (.bool true)], args := [d] }
  | _ => none }
def matrixReducesRow : OpenClaim := { program := "ytbpegjgpdgeadaagreatdoor", sum := "3efcf3b2386ca292e55c71865eb8ca2d9e5dbca36dc873c95c9f0ce090540190", func := "metrolab/metrolablaw04.MatrixReduces", spec := "matrixReduces", inPlace := ["internal/bytealg.IndexByteString", "internal/bytealg.IndexString", "internal/bytealg.abigen_runtime_cmpstring", "internal/abi.NoEscape"], unfollowed := true, recurses := true, named := ["internal/bytealg.MaxLen", "unicode/utf8.first", "unicode/utf8.acceptRanges", "strconv.ErrSyntax", "strconv.ErrRange", "internal/strconv.uint64pow10", "math/bits.deBruijn32tab", "math/bits.deBruijn64tab"], apart := false, laid := [("math/bits.deBruijn32tab", laid_math_bits_deBruijn32tab), ("math/bits.deBruijn64tab", laid_math_bits_deBruijn64tab), ("internal/strconv.uint64pow10", laid_internal_strconv_uint64pow10), ("unicode/utf8.acceptRanges", laid_unicode_utf8_acceptRanges), ("strconv.ErrRange", laid_strconv_ErrRange), ("strconv.ErrSyntax", laid_strconv_ErrSyntax), ("unicode/utf8.first", laid_unicode_utf8_first)] }
def MatrixReducesSaid : Prop := matrixReducesRow.holds Tryz.pinned (OpenSpec.ofChange matrixReducesSpec)

/-- ITS FALSE NEIGHBOUR: 'it returns false'. Refute it at one input. -/
def matrixReducesWrong : ChangeSpec := { name := "matrixReduces", fn := fun _ => fun
  | [d] => { results := [.lit (.bool false)], args := [d] }
  | _ => none }
def MatrixReducesWrongFalsely : Prop := matrixReducesRow.holds Tryz.pinned (OpenSpec.ofChange matrixReducesWrong)

/-- 'metrolablaw04.MatrixInverts': WHATEVER THE INPUT: true; the input reads as it did. -/
def matrixInvertsSpec : ChangeSpec := { name := "matrixInverts", fn := fun _ => fun
  | [d] => { results := [.lit (.bool true)], args := [d] }
  | _ => none }
def matrixInvertsRow : OpenClaim := { program := "ytbpegjgpdgeadaagreatdoor", sum := "3efcf3b2386ca292e55c71865eb8ca2d9e5dbca36dc873c95c9f0ce090540190", func := "metrolab/metrolablaw04.MatrixInverts", spec := "matrixInverts", inPlace := ["internal/bytealg.IndexByteString", "internal/bytealg.IndexString", "internal/bytealg.abigen_runtime_cmpstring", "internal/abi.NoEscape"], unfollowed := true, recurses := true, named := ["internal/bytealg.MaxLen", "unicode/utf8.first", "unicode/utf8.acceptRanges", "strconv.ErrSyntax", "strconv.ErrRange", "internal/strconv.uint64pow10", "math/bits.deBruijn32tab", "math/bits.deBruijn64tab"], apart := false, laid := [("math/bits.deBruijn32tab", laid_math_bits_deBruijn32tab), ("math/bits.deBruijn64tab", laid_math_bits_deBruijn64tab), ("internal/strconv.uint64pow10", laid_internal_strconv_uint64pow10), ("unicode/utf8.acceptRanges", laid_unicode_utf8_acceptRanges), ("strconv.ErrRange", laid_strconv_ErrRange), ("strconv.ErrSyntax", laid_strconv_ErrSyntax), ("unicode/utf8.first", laid_unicode_utf8_first)] }
def MatrixInvertsSaid : Prop := matrixInvertsRow.holds Tryz.pinned (OpenSpec.ofChange matrixInvertsSpec)

/-- ITS FALSE NEIGHBOUR: 'it returns false'. Refute it at one input. -/
def matrixInvertsWrong : ChangeSpec := { name := "matrixInverts", fn := fun _ => fun
  | [d] => { results := [.lit (.bool false)], args := [d] }
  | _ => none }
def MatrixInvertsWrongFalsely : Prop := matrixInvertsRow.holds Tryz.pinned (OpenSpec.ofChange matrixInvertsWrong)

/-- 'metrolablaw04.MatrixSolves': WHATEVER THE INPUT: true; the input reads as it did. -/
def matrixSolvesSpec : ChangeSpec := { name := "matrixSolves", fn := fun _ => fun
  | [d1, d2] => { results := [.lit (.bool true)], args := [d1, d2] }
  | _ => none }
def matrixSolvesRow : OpenClaim := { program := "ytbpegjgpdgeadaagreatdoor", sum := "3efcf3b2386ca292e55c71865eb8ca2d9e5dbca36dc873c95c9f0ce090540190", func := "metrolab/metrolablaw04.MatrixSolves", spec := "matrixSolves", inPlace := ["internal/bytealg.IndexByteString", "internal/bytealg.IndexString", "internal/bytealg.abigen_runtime_cmpstring", "internal/abi.NoEscape"], unfollowed := true, recurses := true, named := ["internal/bytealg.MaxLen", "unicode/utf8.first", "unicode/utf8.acceptRanges", "strconv.ErrSyntax", "strconv.ErrRange", "internal/strconv.uint64pow10", "math/bits.deBruijn32tab", "math/bits.deBruijn64tab"], apart := false, laid := [("math/bits.deBruijn32tab", laid_math_bits_deBruijn32tab), ("math/bits.deBruijn64tab", laid_math_bits_deBruijn64tab), ("internal/strconv.uint64pow10", laid_internal_strconv_uint64pow10), ("unicode/utf8.acceptRanges", laid_unicode_utf8_acceptRanges), ("strconv.ErrRange", laid_strconv_ErrRange), ("strconv.ErrSyntax", laid_strconv_ErrSyntax), ("unicode/utf8.first", laid_unicode_utf8_first)] }
def MatrixSolvesSaid : Prop := matrixSolvesRow.holds Tryz.pinned (OpenSpec.ofChange matrixSolvesSpec)

/-- ITS FALSE NEIGHBOUR: 'it returns false'. Refute it at one input. -/
def matrixSolvesWrong : ChangeSpec := { name := "matrixSolves", fn := fun _ => fun
  | [d1, d2] => { results := [.lit (.bool false)], args := [d1, d2] }
  | _ => none }
def MatrixSolvesWrongFalsely : Prop := matrixSolvesRow.holds Tryz.pinned (OpenSpec.ofChange matrixSolvesWrong)

/-- 'metrolablaw04.MatrixMakes': WHATEVER THE INPUT: true; the input reads as it did. -/
def matrixMakesSpec : ChangeSpec := { name := "matrixMakes", fn := fun _ => fun
  | [d1, d2, d3] => { results := [.lit (.bool true)], args := [d1, d2, d3] }
  | _ => none }
def matrixMakesRow : OpenClaim := { program := "ytbpegjgpdgeadaagreatdoor", sum := "3efcf3b2386ca292e55c71865eb8ca2d9e5dbca36dc873c95c9f0ce090540190", func := "metrolab/metrolablaw04.MatrixMakes", spec := "matrixMakes", inPlace := ["internal/bytealg.IndexByteString", "internal/bytealg.IndexString", "internal/bytealg.abigen_runtime_cmpstring", "internal/abi.NoEscape"], unfollowed := true, recurses := true, named := ["internal/bytealg.MaxLen", "unicode/utf8.first", "unicode/utf8.acceptRanges", "strconv.ErrSyntax", "strconv.ErrRange", "internal/strconv.uint64pow10", "math/bits.deBruijn32tab", "math/bits.deBruijn64tab"], apart := false, laid := [("math/bits.deBruijn32tab", laid_math_bits_deBruijn32tab), ("math/bits.deBruijn64tab", laid_math_bits_deBruijn64tab), ("internal/strconv.uint64pow10", laid_internal_strconv_uint64pow10), ("unicode/utf8.acceptRanges", laid_unicode_utf8_acceptRanges), ("strconv.ErrRange", laid_strconv_ErrRange), ("strconv.ErrSyntax", laid_strconv_ErrSyntax), ("unicode/utf8.first", laid_unicode_utf8_first)] }
def MatrixMakesSaid : Prop := matrixMakesRow.holds Tryz.pinned (OpenSpec.ofChange matrixMakesSpec)

/-- ITS FALSE NEIGHBOUR: 'it returns false'. Refute it at one input. -/
def matrixMakesWrong : ChangeSpec := { name := "matrixMakes", fn := fun _ => fun
  | [d1, d2, d3] => { results := [.lit (.bool false)], args := [d1, d2, d3] }
  | _ => none }
def MatrixMakesWrongFalsely : Prop := matrixMakesRow.holds Tryz.pinned (OpenSpec.ofChange matrixMakesWrong)

/-- 'metrolablaw04.MatrixAnswers': WHATEVER THE INPUT: true; the input reads as it did. -/
def matrixAnswersSpec : ChangeSpec := { name := "matrixAnswers", fn := fun _ => fun
  | [d1, d2, d3] => { results := [.lit (.bool true)], args := [d1, d2, d3] }
  | _ => none }
def matrixAnswersRow : OpenClaim := { program := "ytbpegjgpdgeadaagreatdoor", sum := "3efcf3b2386ca292e55c71865eb8ca2d9e5dbca36dc873c95c9f0ce090540190", func := "metrolab/metrolablaw04.MatrixAnswers", spec := "matrixAnswers", inPlace := ["internal/bytealg.IndexByteString", "internal/bytealg.IndexString", "internal/bytealg.abigen_runtime_cmpstring", "internal/abi.NoEscape"], unfollowed := true, recurses := true, named := ["internal/bytealg.MaxLen", "unicode/utf8.first", "unicode/utf8.acceptRanges", "strconv.ErrSyntax", "strconv.ErrRange", "internal/strconv.uint64pow10", "math/bits.deBruijn32tab", "math/bits.deBruijn64tab"], apart := false, laid := [("math/bits.deBruijn32tab", laid_math_bits_deBruijn32tab), ("math/bits.deBruijn64tab", laid_math_bits_deBruijn64tab), ("internal/strconv.uint64pow10", laid_internal_strconv_uint64pow10), ("unicode/utf8.acceptRanges", laid_unicode_utf8_acceptRanges), ("strconv.ErrRange", laid_strconv_ErrRange), ("strconv.ErrSyntax", laid_strconv_ErrSyntax), ("unicode/utf8.first", laid_unicode_utf8_first)] }
def MatrixAnswersSaid : Prop := matrixAnswersRow.holds Tryz.pinned (OpenSpec.ofChange matrixAnswersSpec)

/-- ITS FALSE NEIGHBOUR: 'it returns false'. Refute it at one input. -/
def matrixAnswersWrong : ChangeSpec := { name := "matrixAnswers", fn := fun _ => fun
  | [d1, d2, d3] => { results := [.lit (.bool false)], args := [d1, d2, d3] }
  | _ => none }
def MatrixAnswersWrongFalsely : Prop := matrixAnswersRow.holds Tryz.pinned (OpenSpec.ofChange matrixAnswersWrong)

/-- 'metrolablaw04.MatrixUndoes': WHATEVER THE INPUT: true; the input reads as it did. -/
def matrixUndoesSpec : ChangeSpec := { name := "matrixUndoes", fn := fun _ => fun
  | [d] => { results := [.lit (.bool true)], args := [d] }
  | _ => none }
def matrixUndoesRow : OpenClaim := { program := "ytbpegjgpdgeadaagreatdoor", sum := "3efcf3b2386ca292e55c71865eb8ca2d9e5dbca36dc873c95c9f0ce090540190", func := "metrolab/metrolablaw04.MatrixUndoes", spec := "matrixUndoes", inPlace := ["internal/bytealg.IndexByteString", "internal/bytealg.IndexString", "internal/bytealg.abigen_runtime_cmpstring", "internal/abi.NoEscape"], unfollowed := true, recurses := true, named := ["internal/bytealg.MaxLen", "unicode/utf8.first", "unicode/utf8.acceptRanges", "strconv.ErrSyntax", "strconv.ErrRange", "internal/strconv.uint64pow10", "math/bits.deBruijn32tab", "math/bits.deBruijn64tab"], apart := false, laid := [("math/bits.deBruijn32tab", laid_math_bits_deBruijn32tab), ("math/bits.deBruijn64tab", laid_math_bits_deBruijn64tab), ("internal/strconv.uint64pow10", laid_internal_strconv_uint64pow10), ("unicode/utf8.acceptRanges", laid_unicode_utf8_acceptRanges), ("strconv.ErrRange", laid_strconv_ErrRange), ("strconv.ErrSyntax", laid_strconv_ErrSyntax), ("unicode/utf8.first", laid_unicode_utf8_first)] }
def MatrixUndoesSaid : Prop := matrixUndoesRow.holds Tryz.pinned (OpenSpec.ofChange matrixUndoesSpec)

/-- ITS FALSE NEIGHBOUR: 'it returns false'. Refute it at one input. -/
def matrixUndoesWrong : ChangeSpec := { name := "matrixUndoes", fn := fun _ => fun
  | [d] => { results := [.lit (.bool false)], args := [d] }
  | _ => none }
def MatrixUndoesWrongFalsely : Prop := matrixUndoesRow.holds Tryz.pinned (OpenSpec.ofChange matrixUndoesWrong)

/-- 'metrolablaw04.MatrixSpans': WHATEVER THE INPUT: true; the input reads as it did. -/
def matrixSpansSpec : ChangeSpec := { name := "matrixSpans", fn := fun _ => fun
  | [d] => { results := [.lit (.bool true)], args := [d] }
  | _ => none }
def matrixSpansRow : OpenClaim := { program := "ytbpegjgpdgeadaagreatdoor", sum := "3efcf3b2386ca292e55c71865eb8ca2d9e5dbca36dc873c95c9f0ce090540190", func := "metrolab/metrolablaw04.MatrixSpans", spec := "matrixSpans", inPlace := ["internal/bytealg.IndexByteString", "internal/bytealg.IndexString", "internal/bytealg.abigen_runtime_cmpstring", "internal/abi.NoEscape"], unfollowed := true, recurses := true, named := ["internal/bytealg.MaxLen", "unicode/utf8.first", "unicode/utf8.acceptRanges", "strconv.ErrSyntax", "strconv.ErrRange", "internal/strconv.uint64pow10", "math/bits.deBruijn32tab", "math/bits.deBruijn64tab"], apart := false, laid := [("math/bits.deBruijn32tab", laid_math_bits_deBruijn32tab), ("math/bits.deBruijn64tab", laid_math_bits_deBruijn64tab), ("internal/strconv.uint64pow10", laid_internal_strconv_uint64pow10), ("unicode/utf8.acceptRanges", laid_unicode_utf8_acceptRanges), ("strconv.ErrRange", laid_strconv_ErrRange), ("strconv.ErrSyntax", laid_strconv_ErrSyntax), ("unicode/utf8.first", laid_unicode_utf8_first)] }
def MatrixSpansSaid : Prop := matrixSpansRow.holds Tryz.pinned (OpenSpec.ofChange matrixSpansSpec)

/-- ITS FALSE NEIGHBOUR: 'it returns false'. Refute it at one input. -/
def matrixSpansWrong : ChangeSpec := { name := "matrixSpans", fn := fun _ => fun
  | [d] => { results := [.lit (.bool false)], args := [d] }
  | _ => none }
def MatrixSpansWrongFalsely : Prop := matrixSpansRow.holds Tryz.pinned (OpenSpec.ofChange matrixSpansWrong)

/-- 'metrolablaw04.MatrixDetermines': WHATEVER THE INPUT: true; the input reads as it did. -/
def matrixDeterminesSpec : ChangeSpec := { name := "matrixDetermines", fn := fun _ => fun
  | [d1, d2] => { results := [.lit (.bool true)], args := [d1, d2] }
  | _ => none }
def matrixDeterminesRow : OpenClaim := { program := "ytbpegjgpdgeadaagreatdoor", sum := "3efcf3b2386ca292e55c71865eb8ca2d9e5dbca36dc873c95c9f0ce090540190", func := "metrolab/metrolablaw04.MatrixDetermines", spec := "matrixDetermines", inPlace := ["internal/bytealg.IndexByteString", "internal/bytealg.IndexString", "internal/bytealg.abigen_runtime_cmpstring", "internal/abi.NoEscape"], unfollowed := true, recurses := true, named := ["internal/bytealg.MaxLen", "unicode/utf8.first", "unicode/utf8.acceptRanges", "strconv.ErrSyntax", "strconv.ErrRange", "internal/strconv.uint64pow10", "math/bits.deBruijn32tab", "math/bits.deBruijn64tab"], apart := false, laid := [("math/bits.deBruijn32tab", laid_math_bits_deBruijn32tab), ("math/bits.deBruijn64tab", laid_math_bits_deBruijn64tab), ("internal/strconv.uint64pow10", laid_internal_strconv_uint64pow10), ("unicode/utf8.acceptRanges", laid_unicode_utf8_acceptRanges), ("strconv.ErrRange", laid_strconv_ErrRange), ("strconv.ErrSyntax", laid_strconv_ErrSyntax), ("unicode/utf8.first", laid_unicode_utf8_first)] }
def MatrixDeterminesSaid : Prop := matrixDeterminesRow.holds Tryz.pinned (OpenSpec.ofChange matrixDeterminesSpec)

/-- ITS FALSE NEIGHBOUR: 'it returns false'. Refute it at one input. -/
def matrixDeterminesWrong : ChangeSpec := { name := "matrixDetermines", fn := fun _ => fun
  | [d1, d2] => { results := [.lit (.bool false)], args := [d1, d2] }
  | _ => none }
def MatrixDeterminesWrongFalsely : Prop := matrixDeterminesRow.holds Tryz.pinned (OpenSpec.ofChange matrixDeterminesWrong)

/-- 'metrolablaw04.MatrixMultiplies': WHATEVER THE INPUT: true; the input reads as it did. -/
def matrixMultipliesSpec : ChangeSpec := { name := "matrixMultiplies", fn := fun _ => fun
  | [d1, d2, d3] => { results := [.lit (.bool true)], args := [d1, d2, d3] }
  | _ => none }
def matrixMultipliesRow : OpenClaim := { program := "ytbpegjgpdgeadaagreatdoor", sum := "3efcf3b2386ca292e55c71865eb8ca2d9e5dbca36dc873c95c9f0ce090540190", func := "metrolab/metrolablaw04.MatrixMultiplies", spec := "matrixMultiplies", inPlace := ["internal/bytealg.IndexByteString", "internal/bytealg.IndexString", "internal/bytealg.abigen_runtime_cmpstring", "internal/abi.NoEscape"], unfollowed := true, recurses := true, named := ["internal/bytealg.MaxLen", "unicode/utf8.first", "unicode/utf8.acceptRanges", "strconv.ErrSyntax", "strconv.ErrRange", "internal/strconv.uint64pow10", "math/bits.deBruijn32tab", "math/bits.deBruijn64tab"], apart := false, laid := [("math/bits.deBruijn32tab", laid_math_bits_deBruijn32tab), ("math/bits.deBruijn64tab", laid_math_bits_deBruijn64tab), ("internal/strconv.uint64pow10", laid_internal_strconv_uint64pow10), ("unicode/utf8.acceptRanges", laid_unicode_utf8_acceptRanges), ("strconv.ErrRange", laid_strconv_ErrRange), ("strconv.ErrSyntax", laid_strconv_ErrSyntax), ("unicode/utf8.first", laid_unicode_utf8_first)] }
def MatrixMultipliesSaid : Prop := matrixMultipliesRow.holds Tryz.pinned (OpenSpec.ofChange matrixMultipliesSpec)

/-- ITS FALSE NEIGHBOUR: 'it returns false'. Refute it at one input. -/
def matrixMultipliesWrong : ChangeSpec := { name := "matrixMultiplies", fn := fun _ => fun
  | [d1, d2, d3] => { results := [.lit (.bool false)], args := [d1, d2, d3] }
  | _ => none }
def MatrixMultipliesWrongFalsely : Prop := matrixMultipliesRow.holds Tryz.pinned (OpenSpec.ofChange matrixMultipliesWrong)

/-- 'metrolablaw40.TorsorFits': WHATEVER THE INPUT: true; the input reads as it did. -/
def torsorFitsSpec : ChangeSpec := { name := "torsorFits", fn := fun _ => fun
  | [d] => { results := [.lit (.bool true)], args := [d] }
  | _ => none }
def torsorFitsRow : OpenClaim := { program := "ytbpegjgpdgeadaagreatdoor", sum := "3efcf3b2386ca292e55c71865eb8ca2d9e5dbca36dc873c95c9f0ce090540190", func := "metrolab/metrolablaw40.TorsorFits", spec := "torsorFits", inPlace := ["internal/bytealg.IndexByteString", "internal/bytealg.IndexString", "internal/bytealg.abigen_runtime_cmpstring", "internal/abi.NoEscape"], unfollowed := true, recurses := true, named := ["internal/bytealg.MaxLen", "unicode/utf8.first", "unicode/utf8.acceptRanges", "strconv.ErrSyntax", "strconv.ErrRange", "internal/strconv.uint64pow10", "math/bits.deBruijn32tab", "math/bits.deBruijn64tab"], apart := false, laid := [("math/bits.deBruijn32tab", laid_math_bits_deBruijn32tab), ("math/bits.deBruijn64tab", laid_math_bits_deBruijn64tab), ("internal/strconv.uint64pow10", laid_internal_strconv_uint64pow10), ("unicode/utf8.acceptRanges", laid_unicode_utf8_acceptRanges), ("strconv.ErrRange", laid_strconv_ErrRange), ("strconv.ErrSyntax", laid_strconv_ErrSyntax), ("unicode/utf8.first", laid_unicode_utf8_first)] }
def TorsorFitsSaid : Prop := torsorFitsRow.holds Tryz.pinned (OpenSpec.ofChange torsorFitsSpec)

/-- ITS FALSE NEIGHBOUR: 'it returns false'. Refute it at one input. -/
def torsorFitsWrong : ChangeSpec := { name := "torsorFits", fn := fun _ => fun
  | [d] => { results := [.lit (.bool false)], args := [d] }
  | _ => none }
def TorsorFitsWrongFalsely : Prop := torsorFitsRow.holds Tryz.pinned (OpenSpec.ofChange torsorFitsWrong)

/-- 'metrolablaw40.TorsorMeets': WHATEVER THE INPUT: true; the input reads as it did. -/
def torsorMeetsSpec : ChangeSpec := { name := "torsorMeets", fn := fun _ => fun
  | [d1, d2] => { results := [.lit (.bool true)], args := [d1, d2] }
  | _ => none }
def torsorMeetsRow : OpenClaim := { program := "ytbpegjgpdgeadaagreatdoor", sum := "3efcf3b2386ca292e55c71865eb8ca2d9e5dbca36dc873c95c9f0ce090540190", func := "metrolab/metrolablaw40.TorsorMeets", spec := "torsorMeets", inPlace := ["internal/bytealg.IndexByteString", "internal/bytealg.IndexString", "internal/bytealg.abigen_runtime_cmpstring", "internal/abi.NoEscape"], unfollowed := true, recurses := true, named := ["internal/bytealg.MaxLen", "unicode/utf8.first", "unicode/utf8.acceptRanges", "strconv.ErrSyntax", "strconv.ErrRange", "internal/strconv.uint64pow10", "math/bits.deBruijn32tab", "math/bits.deBruijn64tab"], apart := false, laid := [("math/bits.deBruijn32tab", laid_math_bits_deBruijn32tab), ("math/bits.deBruijn64tab", laid_math_bits_deBruijn64tab), ("internal/strconv.uint64pow10", laid_internal_strconv_uint64pow10), ("unicode/utf8.acceptRanges", laid_unicode_utf8_acceptRanges), ("strconv.ErrRange", laid_strconv_ErrRange), ("strconv.ErrSyntax", laid_strconv_ErrSyntax), ("unicode/utf8.first", laid_unicode_utf8_first)] }
def TorsorMeetsSaid : Prop := torsorMeetsRow.holds Tryz.pinned (OpenSpec.ofChange torsorMeetsSpec)

/-- ITS FALSE NEIGHBOUR: 'it returns false'. Refute it at one input. -/
def torsorMeetsWrong : ChangeSpec := { name := "torsorMeets", fn := fun _ => fun
  | [d1, d2] => { results := [.lit (.bool false)], args := [d1, d2] }
  | _ => none }
def TorsorMeetsWrongFalsely : Prop := torsorMeetsRow.holds Tryz.pinned (OpenSpec.ofChange torsorMeetsWrong)

/- THE SECOND FORM. 'bulk': how many values and letters a reading holds, each counted each time it is reached (what is shared counts as often as it is met; a slice's spare places count too). A statement '..UptoSaid' is the law's where the arguments, and the package variables that the reading takes, are together of bulk at most 1048576: NARROWER than '..Said'. Prove '..Said' where nothing that the law and all that it calls make is longer than what came in: it says more and counts as full. Else prove '..UptoSaid'. A law counts once. -/
mutual
def uptoBulk {H : Type} : DataW H → Nat
  | .lit (.string bytes) => bytes.length + 1
  | .lit _ => 1
  | .nil => 1
  | .ptr d => uptoBulk d + 1
  | .slice elems spare => uptoBulkAll elems + uptoBulkAll spare + 1
  | .agg parts => uptoBulkAll parts + 1
  | .iface _ d => uptoBulk d + 1
  | .map entries => uptoBulkEntries entries + 1
  | .held _ => 1
def uptoBulkAll {H : Type} : List (DataW H) → Nat
  | [] => 0
  | d :: r => uptoBulk d + uptoBulkAll r
def uptoBulkEntries {H : Type} : List (Lit × DataW H) → Nat
  | [] => 0
  | x :: r => uptoBulkEntry x + uptoBulkEntries r
def uptoBulkEntry {H : Type} : Lit × DataW H → Nat
  | (.string bytes, d) => bytes.length + uptoBulk d + 1
  | (_, d) => uptoBulk d + 1
 end
def uptoSmall : (H : Type) → List (DataW H) → Bool := fun _ ds => decide (uptoBulkAll ds ≤ 1048576)
def OpenSpec.upto (s : _root_.Go.ChangeSpec) : _root_.Go.OpenSpec := { _root_.Go.OpenSpec.ofChange s with cond := some uptoSmall }

/-- 'metrolablaw40.TorsorApplies', WHERE WHAT IT READS IS OF BULK AT MOST 1048576: true; the input reads as it did. -/
def torsorAppliesUptoRow : OpenClaim := { program := "ytbpegjgpdgeadaagreatdoor", sum := "3efcf3b2386ca292e55c71865eb8ca2d9e5dbca36dc873c95c9f0ce090540190", func := "metrolab/metrolablaw40.TorsorApplies", spec := "torsorApplies", inPlace := ["internal/bytealg.IndexByteString", "internal/bytealg.IndexString", "internal/bytealg.abigen_runtime_cmpstring", "internal/abi.NoEscape"], unfollowed := true, recurses := true, named := ["internal/bytealg.MaxLen", "unicode/utf8.first", "unicode/utf8.acceptRanges", "strconv.ErrSyntax", "strconv.ErrRange", "internal/strconv.uint64pow10", "math/bits.deBruijn32tab", "math/bits.deBruijn64tab"], apart := false, laid := [("math/bits.deBruijn32tab", laid_math_bits_deBruijn32tab), ("math/bits.deBruijn64tab", laid_math_bits_deBruijn64tab), ("internal/strconv.uint64pow10", laid_internal_strconv_uint64pow10), ("unicode/utf8.acceptRanges", laid_unicode_utf8_acceptRanges), ("strconv.ErrRange", laid_strconv_ErrRange), ("strconv.ErrSyntax", laid_strconv_ErrSyntax), ("unicode/utf8.first", laid_unicode_utf8_first)], narrowed := true }
def TorsorAppliesUptoSaid : Prop := torsorAppliesUptoRow.holds Tryz.pinned (OpenSpec.upto torsorAppliesSpec)

/-- 'metrolablaw40.TorsorForms', WHERE WHAT IT READS IS OF BULK AT MOST 1048576: true; the input reads as it did. -/
def torsorFormsUptoRow : OpenClaim := { program := "ytbpegjgpdgeadaagreatdoor", sum := "3efcf3b2386ca292e55c71865eb8ca2d9e5dbca36dc873c95c9f0ce090540190", func := "metrolab/metrolablaw40.TorsorForms", spec := "torsorForms", inPlace := ["internal/bytealg.IndexByteString", "internal/bytealg.IndexString", "internal/bytealg.abigen_runtime_cmpstring", "internal/abi.NoEscape"], unfollowed := true, recurses := true, named := ["internal/bytealg.MaxLen", "unicode/utf8.first", "unicode/utf8.acceptRanges", "strconv.ErrSyntax", "strconv.ErrRange", "internal/strconv.uint64pow10", "math/bits.deBruijn32tab", "math/bits.deBruijn64tab"], apart := false, laid := [("math/bits.deBruijn32tab", laid_math_bits_deBruijn32tab), ("math/bits.deBruijn64tab", laid_math_bits_deBruijn64tab), ("internal/strconv.uint64pow10", laid_internal_strconv_uint64pow10), ("unicode/utf8.acceptRanges", laid_unicode_utf8_acceptRanges), ("strconv.ErrRange", laid_strconv_ErrRange), ("strconv.ErrSyntax", laid_strconv_ErrSyntax), ("unicode/utf8.first", laid_unicode_utf8_first)], narrowed := true }
def TorsorFormsUptoSaid : Prop := torsorFormsUptoRow.holds Tryz.pinned (OpenSpec.upto torsorFormsSpec)

/-- 'metrolablaw40.TorsorTurns', WHERE WHAT IT READS IS OF BULK AT MOST 1048576: true; the input reads as it did. -/
def torsorTurnsUptoRow : OpenClaim := { program := "ytbpegjgpdgeadaagreatdoor", sum := "3efcf3b2386ca292e55c71865eb8ca2d9e5dbca36dc873c95c9f0ce090540190", func := "metrolab/metrolablaw40.TorsorTurns", spec := "torsorTurns", inPlace := ["internal/bytealg.IndexByteString", "internal/bytealg.IndexString", "internal/bytealg.abigen_runtime_cmpstring", "internal/abi.NoEscape"], unfollowed := true, recurses := true, named := ["internal/bytealg.MaxLen", "unicode/utf8.first", "unicode/utf8.acceptRanges", "strconv.ErrSyntax", "strconv.ErrRange", "internal/strconv.uint64pow10", "math/bits.deBruijn32tab", "math/bits.deBruijn64tab"], apart := false, laid := [("math/bits.deBruijn32tab", laid_math_bits_deBruijn32tab), ("math/bits.deBruijn64tab", laid_math_bits_deBruijn64tab), ("internal/strconv.uint64pow10", laid_internal_strconv_uint64pow10), ("unicode/utf8.acceptRanges", laid_unicode_utf8_acceptRanges), ("strconv.ErrRange", laid_strconv_ErrRange), ("strconv.ErrSyntax", laid_strconv_ErrSyntax), ("unicode/utf8.first", laid_unicode_utf8_first)], narrowed := true }
def TorsorTurnsUptoSaid : Prop := torsorTurnsUptoRow.holds Tryz.pinned (OpenSpec.upto torsorTurnsSpec)

/-- 'metrolablaw40.TorsorKeeps', WHERE WHAT IT READS IS OF BULK AT MOST 1048576: true; the input reads as it did. -/
def torsorKeepsUptoRow : OpenClaim := { program := "ytbpegjgpdgeadaagreatdoor", sum := "3efcf3b2386ca292e55c71865eb8ca2d9e5dbca36dc873c95c9f0ce090540190", func := "metrolab/metrolablaw40.TorsorKeeps", spec := "torsorKeeps", inPlace := ["internal/bytealg.IndexByteString", "internal/bytealg.IndexString", "internal/bytealg.abigen_runtime_cmpstring", "internal/abi.NoEscape"], unfollowed := true, recurses := true, named := ["internal/bytealg.MaxLen", "unicode/utf8.first", "unicode/utf8.acceptRanges", "strconv.ErrSyntax", "strconv.ErrRange", "internal/strconv.uint64pow10", "math/bits.deBruijn32tab", "math/bits.deBruijn64tab"], apart := false, laid := [("math/bits.deBruijn32tab", laid_math_bits_deBruijn32tab), ("math/bits.deBruijn64tab", laid_math_bits_deBruijn64tab), ("internal/strconv.uint64pow10", laid_internal_strconv_uint64pow10), ("unicode/utf8.acceptRanges", laid_unicode_utf8_acceptRanges), ("strconv.ErrRange", laid_strconv_ErrRange), ("strconv.ErrSyntax", laid_strconv_ErrSyntax), ("unicode/utf8.first", laid_unicode_utf8_first)], narrowed := true }
def TorsorKeepsUptoSaid : Prop := torsorKeepsUptoRow.holds Tryz.pinned (OpenSpec.upto torsorKeepsSpec)

/-- 'metrolablaw40.TorsorAdds', WHERE WHAT IT READS IS OF BULK AT MOST 1048576: true; the input reads as it did. -/
def torsorAddsUptoRow : OpenClaim := { program := "ytbpegjgpdgeadaagreatdoor", sum := "3efcf3b2386ca292e55c71865eb8ca2d9e5dbca36dc873c95c9f0ce090540190", func := "metrolab/metrolablaw40.TorsorAdds", spec := "torsorAdds", inPlace := ["internal/bytealg.IndexByteString", "internal/bytealg.IndexString", "internal/bytealg.abigen_runtime_cmpstring", "internal/abi.NoEscape"], unfollowed := true, recurses := true, named := ["internal/bytealg.MaxLen", "unicode/utf8.first", "unicode/utf8.acceptRanges", "strconv.ErrSyntax", "strconv.ErrRange", "internal/strconv.uint64pow10", "math/bits.deBruijn32tab", "math/bits.deBruijn64tab"], apart := false, laid := [("math/bits.deBruijn32tab", laid_math_bits_deBruijn32tab), ("math/bits.deBruijn64tab", laid_math_bits_deBruijn64tab), ("internal/strconv.uint64pow10", laid_internal_strconv_uint64pow10), ("unicode/utf8.acceptRanges", laid_unicode_utf8_acceptRanges), ("strconv.ErrRange", laid_strconv_ErrRange), ("strconv.ErrSyntax", laid_strconv_ErrSyntax), ("unicode/utf8.first", laid_unicode_utf8_first)], narrowed := true }
def TorsorAddsUptoSaid : Prop := torsorAddsUptoRow.holds Tryz.pinned (OpenSpec.upto torsorAddsSpec)

/-- 'metrolablaw04.MatrixReduces', WHERE WHAT IT READS IS OF BULK AT MOST 1048576: true; the input reads as it did. -/
def matrixReducesUptoRow : OpenClaim := { program := "ytbpegjgpdgeadaagreatdoor", sum := "3efcf3b2386ca292e55c71865eb8ca2d9e5dbca36dc873c95c9f0ce090540190", func := "metrolab/metrolablaw04.MatrixReduces", spec := "matrixReduces", inPlace := ["internal/bytealg.IndexByteString", "internal/bytealg.IndexString", "internal/bytealg.abigen_runtime_cmpstring", "internal/abi.NoEscape"], unfollowed := true, recurses := true, named := ["internal/bytealg.MaxLen", "unicode/utf8.first", "unicode/utf8.acceptRanges", "strconv.ErrSyntax", "strconv.ErrRange", "internal/strconv.uint64pow10", "math/bits.deBruijn32tab", "math/bits.deBruijn64tab"], apart := false, laid := [("math/bits.deBruijn32tab", laid_math_bits_deBruijn32tab), ("math/bits.deBruijn64tab", laid_math_bits_deBruijn64tab), ("internal/strconv.uint64pow10", laid_internal_strconv_uint64pow10), ("unicode/utf8.acceptRanges", laid_unicode_utf8_acceptRanges), ("strconv.ErrRange", laid_strconv_ErrRange), ("strconv.ErrSyntax", laid_strconv_ErrSyntax), ("unicode/utf8.first", laid_unicode_utf8_first)], narrowed := true }
def MatrixReducesUptoSaid : Prop := matrixReducesUptoRow.holds Tryz.pinned (OpenSpec.upto matrixReducesSpec)

/-- 'metrolablaw04.MatrixInverts', WHERE WHAT IT READS IS OF BULK AT MOST 1048576: true; the input reads as it did. -/
def matrixInvertsUptoRow : OpenClaim := { program := "ytbpegjgpdgeadaagreatdoor", sum := "3efcf3b2386ca292e55c71865eb8ca2d9e5dbca36dc873c95c9f0ce090540190", func := "metrolab/metrolablaw04.MatrixInverts", spec := "matrixInverts", inPlace := ["internal/bytealg.IndexByteString", "internal/bytealg.IndexString", "internal/bytealg.abigen_runtime_cmpstring", "internal/abi.NoEscape"], unfollowed := true, recurses := true, named := ["internal/bytealg.MaxLen", "unicode/utf8.first", "unicode/utf8.acceptRanges", "strconv.ErrSyntax", "strconv.ErrRange", "internal/strconv.uint64pow10", "math/bits.deBruijn32tab", "math/bits.deBruijn64tab"], apart := false, laid := [("math/bits.deBruijn32tab", laid_math_bits_deBruijn32tab), ("math/bits.deBruijn64tab", laid_math_bits_deBruijn64tab), ("internal/strconv.uint64pow10", laid_internal_strconv_uint64pow10), ("unicode/utf8.acceptRanges", laid_unicode_utf8_acceptRanges), ("strconv.ErrRange", laid_strconv_ErrRange), ("strconv.ErrSyntax", laid_strconv_ErrSyntax), ("unicode/utf8.first", laid_unicode_utf8_first)], narrowed := true }
def MatrixInvertsUptoSaid : Prop := matrixInvertsUptoRow.holds Tryz.pinned (OpenSpec.upto matrixInvertsSpec)

/-- 'metrolablaw04.MatrixSolves', WHERE WHAT IT READS IS OF BULK AT MOST 1048576: true; the input reads as it did. -/
def matrixSolvesUptoRow : OpenClaim := { program := "ytbpegjgpdgeadaagreatdoor", sum := "3efcf3b2386ca292e55c71865eb8ca2d9e5dbca36dc873c95c9f0ce090540190", func := "metrolab/metrolablaw04.MatrixSolves", spec := "matrixSolves", inPlace := ["internal/bytealg.IndexByteString", "internal/bytealg.IndexString", "internal/bytealg.abigen_runtime_cmpstring", "internal/abi.NoEscape"], unfollowed := true, recurses := true, named := ["internal/bytealg.MaxLen", "unicode/utf8.first", "unicode/utf8.acceptRanges", "strconv.ErrSyntax", "strconv.ErrRange", "internal/strconv.uint64pow10", "math/bits.deBruijn32tab", "math/bits.deBruijn64tab"], apart := false, laid := [("math/bits.deBruijn32tab", laid_math_bits_deBruijn32tab), ("math/bits.deBruijn64tab", laid_math_bits_deBruijn64tab), ("internal/strconv.uint64pow10", laid_internal_strconv_uint64pow10), ("unicode/utf8.acceptRanges", laid_unicode_utf8_acceptRanges), ("strconv.ErrRange", laid_strconv_ErrRange), ("strconv.ErrSyntax", laid_strconv_ErrSyntax), ("unicode/utf8.first", laid_unicode_utf8_first)], narrowed := true }
def MatrixSolvesUptoSaid : Prop := matrixSolvesUptoRow.holds Tryz.pinned (OpenSpec.upto matrixSolvesSpec)

/-- 'metrolablaw04.MatrixMakes', WHERE WHAT IT READS IS OF BULK AT MOST 1048576: true; the input reads as it did. -/
def matrixMakesUptoRow : OpenClaim := { program := "ytbpegjgpdgeadaagreatdoor", sum := "3efcf3b2386ca292e55c71865eb8ca2d9e5dbca36dc873c95c9f0ce090540190", func := "metrolab/metrolablaw04.MatrixMakes", spec := "matrixMakes", inPlace := ["internal/bytealg.IndexByteString", "internal/bytealg.IndexString", "internal/bytealg.abigen_runtime_cmpstring", "internal/abi.NoEscape"], unfollowed := true, recurses := true, named := ["internal/bytealg.MaxLen", "unicode/utf8.first", "unicode/utf8.acceptRanges", "strconv.ErrSyntax", "strconv.ErrRange", "internal/strconv.uint64pow10", "math/bits.deBruijn32tab", "math/bits.deBruijn64tab"], apart := false, laid := [("math/bits.deBruijn32tab", laid_math_bits_deBruijn32tab), ("math/bits.deBruijn64tab", laid_math_bits_deBruijn64tab), ("internal/strconv.uint64pow10", laid_internal_strconv_uint64pow10), ("unicode/utf8.acceptRanges", laid_unicode_utf8_acceptRanges), ("strconv.ErrRange", laid_strconv_ErrRange), ("strconv.ErrSyntax", laid_strconv_ErrSyntax), ("unicode/utf8.first", laid_unicode_utf8_first)], narrowed := true }
def MatrixMakesUptoSaid : Prop := matrixMakesUptoRow.holds Tryz.pinned (OpenSpec.upto matrixMakesSpec)

/-- 'metrolablaw04.MatrixAnswers', WHERE WHAT IT READS IS OF BULK AT MOST 1048576: true; the input reads as it did. -/
def matrixAnswersUptoRow : OpenClaim := { program := "ytbpegjgpdgeadaagreatdoor", sum := "3efcf3b2386ca292e55c71865eb8ca2d9e5dbca36dc873c95c9f0ce090540190", func := "metrolab/metrolablaw04.MatrixAnswers", spec := "matrixAnswers", inPlace := ["internal/bytealg.IndexByteString", "internal/bytealg.IndexString", "internal/bytealg.abigen_runtime_cmpstring", "internal/abi.NoEscape"], unfollowed := true, recurses := true, named := ["internal/bytealg.MaxLen", "unicode/utf8.first", "unicode/utf8.acceptRanges", "strconv.ErrSyntax", "strconv.ErrRange", "internal/strconv.uint64pow10", "math/bits.deBruijn32tab", "math/bits.deBruijn64tab"], apart := false, laid := [("math/bits.deBruijn32tab", laid_math_bits_deBruijn32tab), ("math/bits.deBruijn64tab", laid_math_bits_deBruijn64tab), ("internal/strconv.uint64pow10", laid_internal_strconv_uint64pow10), ("unicode/utf8.acceptRanges", laid_unicode_utf8_acceptRanges), ("strconv.ErrRange", laid_strconv_ErrRange), ("strconv.ErrSyntax", laid_strconv_ErrSyntax), ("unicode/utf8.first", laid_unicode_utf8_first)], narrowed := true }
def MatrixAnswersUptoSaid : Prop := matrixAnswersUptoRow.holds Tryz.pinned (OpenSpec.upto matrixAnswersSpec)

/-- 'metrolablaw04.MatrixUndoes', WHERE WHAT IT READS IS OF BULK AT MOST 1048576: true; the input reads as it did. -/
def matrixUndoesUptoRow : OpenClaim := { program := "ytbpegjgpdgeadaagreatdoor", sum := "3efcf3b2386ca292e55c71865eb8ca2d9e5dbca36dc873c95c9f0ce090540190", func := "metrolab/metrolablaw04.MatrixUndoes", spec := "matrixUndoes", inPlace := ["internal/bytealg.IndexByteString", "internal/bytealg.IndexString", "internal/bytealg.abigen_runtime_cmpstring", "internal/abi.NoEscape"], unfollowed := true, recurses := true, named := ["internal/bytealg.MaxLen", "unicode/utf8.first", "unicode/utf8.acceptRanges", "strconv.ErrSyntax", "strconv.ErrRange", "internal/strconv.uint64pow10", "math/bits.deBruijn32tab", "math/bits.deBruijn64tab"], apart := false, laid := [("math/bits.deBruijn32tab", laid_math_bits_deBruijn32tab), ("math/bits.deBruijn64tab", laid_math_bits_deBruijn64tab), ("internal/strconv.uint64pow10", laid_internal_strconv_uint64pow10), ("unicode/utf8.acceptRanges", laid_unicode_utf8_acceptRanges), ("strconv.ErrRange", laid_strconv_ErrRange), ("strconv.ErrSyntax", laid_strconv_ErrSyntax), ("unicode/utf8.first", laid_unicode_utf8_first)], narrowed := true }
def MatrixUndoesUptoSaid : Prop := matrixUndoesUptoRow.holds Tryz.pinned (OpenSpec.upto matrixUndoesSpec)

/-- 'metrolablaw04.MatrixSpans', WHERE WHAT IT READS IS OF BULK AT MOST 1048576: true; the input reads as it did. -/
def matrixSpansUptoRow : OpenClaim := { program := "ytbpegjgpdgeadaagreatdoor", sum := "3efcf3b2386ca292e55c71865eb8ca2d9e5dbca36dc873c95c9f0ce090540190", func := "metrolab/metrolablaw04.MatrixSpans", spec := "matrixSpans", inPlace := ["internal/bytealg.IndexByteString", "internal/bytealg.IndexString", "internal/bytealg.abigen_runtime_cmpstring", "internal/abi.NoEscape"], unfollowed := true, recurses := true, named := ["internal/bytealg.MaxLen", "unicode/utf8.first", "unicode/utf8.acceptRanges", "strconv.ErrSyntax", "strconv.ErrRange", "internal/strconv.uint64pow10", "math/bits.deBruijn32tab", "math/bits.deBruijn64tab"], apart := false, laid := [("math/bits.deBruijn32tab", laid_math_bits_deBruijn32tab), ("math/bits.deBruijn64tab", laid_math_bits_deBruijn64tab), ("internal/strconv.uint64pow10", laid_internal_strconv_uint64pow10), ("unicode/utf8.acceptRanges", laid_unicode_utf8_acceptRanges), ("strconv.ErrRange", laid_strconv_ErrRange), ("strconv.ErrSyntax", laid_strconv_ErrSyntax), ("unicode/utf8.first", laid_unicode_utf8_first)], narrowed := true }
def MatrixSpansUptoSaid : Prop := matrixSpansUptoRow.holds Tryz.pinned (OpenSpec.upto matrixSpansSpec)

/-- 'metrolablaw04.MatrixDetermines', WHERE WHAT IT READS IS OF BULK AT MOST 1048576: true; the input reads as it did. -/
def matrixDeterminesUptoRow : OpenClaim := { program := "ytbpegjgpdgeadaagreatdoor", sum := "3efcf3b2386ca292e55c71865eb8ca2d9e5dbca36dc873c95c9f0ce090540190", func := "metrolab/metrolablaw04.MatrixDetermines", spec := "matrixDetermines", inPlace := ["internal/bytealg.IndexByteString", "internal/bytealg.IndexString", "internal/bytealg.abigen_runtime_cmpstring", "internal/abi.NoEscape"], unfollowed := true, recurses := true, named := ["internal/bytealg.MaxLen", "unicode/utf8.first", "unicode/utf8.acceptRanges", "strconv.ErrSyntax", "strconv.ErrRange", "internal/strconv.uint64pow10", "math/bits.deBruijn32tab", "math/bits.deBruijn64tab"], apart := false, laid := [("math/bits.deBruijn32tab", laid_math_bits_deBruijn32tab), ("math/bits.deBruijn64tab", laid_math_bits_deBruijn64tab), ("internal/strconv.uint64pow10", laid_internal_strconv_uint64pow10), ("unicode/utf8.acceptRanges", laid_unicode_utf8_acceptRanges), ("strconv.ErrRange", laid_strconv_ErrRange), ("strconv.ErrSyntax", laid_strconv_ErrSyntax), ("unicode/utf8.first", laid_unicode_utf8_first)], narrowed := true }
def MatrixDeterminesUptoSaid : Prop := matrixDeterminesUptoRow.holds Tryz.pinned (OpenSpec.upto matrixDeterminesSpec)

/-- 'metrolablaw04.MatrixMultiplies', WHERE WHAT IT READS IS OF BULK AT MOST 1048576: true; the input reads as it did. -/
def matrixMultipliesUptoRow : OpenClaim := { program := "ytbpegjgpdgeadaagreatdoor", sum := "3efcf3b2386ca292e55c71865eb8ca2d9e5dbca36dc873c95c9f0ce090540190", func := "metrolab/metrolablaw04.MatrixMultiplies", spec := "matrixMultiplies", inPlace := ["internal/bytealg.IndexByteString", "internal/bytealg.IndexString", "internal/bytealg.abigen_runtime_cmpstring", "internal/abi.NoEscape"], unfollowed := true, recurses := true, named := ["internal/bytealg.MaxLen", "unicode/utf8.first", "unicode/utf8.acceptRanges", "strconv.ErrSyntax", "strconv.ErrRange", "internal/strconv.uint64pow10", "math/bits.deBruijn32tab", "math/bits.deBruijn64tab"], apart := false, laid := [("math/bits.deBruijn32tab", laid_math_bits_deBruijn32tab), ("math/bits.deBruijn64tab", laid_math_bits_deBruijn64tab), ("internal/strconv.uint64pow10", laid_internal_strconv_uint64pow10), ("unicode/utf8.acceptRanges", laid_unicode_utf8_acceptRanges), ("strconv.ErrRange", laid_strconv_ErrRange), ("strconv.ErrSyntax", laid_strconv_ErrSyntax), ("unicode/utf8.first", laid_unicode_utf8_first)], narrowed := true }
def MatrixMultipliesUptoSaid : Prop := matrixMultipliesUptoRow.holds Tryz.pinned (OpenSpec.upto matrixMultipliesSpec)

/-- 'metrolablaw40.TorsorFits', WHERE WHAT IT READS IS OF BULK AT MOST 1048576: true; the input reads as it did. -/
def torsorFitsUptoRow : OpenClaim := { program := "ytbpegjgpdgeadaagreatdoor", sum := "3efcf3b2386ca292e55c71865eb8ca2d9e5dbca36dc873c95c9f0ce090540190", func := "metrolab/metrolablaw40.TorsorFits", spec := "torsorFits", inPlace := ["internal/bytealg.IndexByteString", "internal/bytealg.IndexString", "internal/bytealg.abigen_runtime_cmpstring", "internal/abi.NoEscape"], unfollowed := true, recurses := true, named := ["internal/bytealg.MaxLen", "unicode/utf8.first", "unicode/utf8.acceptRanges", "strconv.ErrSyntax", "strconv.ErrRange", "internal/strconv.uint64pow10", "math/bits.deBruijn32tab", "math/bits.deBruijn64tab"], apart := false, laid := [("math/bits.deBruijn32tab", laid_math_bits_deBruijn32tab), ("math/bits.deBruijn64tab", laid_math_bits_deBruijn64tab), ("internal/strconv.uint64pow10", laid_internal_strconv_uint64pow10), ("unicode/utf8.acceptRanges", laid_unicode_utf8_acceptRanges), ("strconv.ErrRange", laid_strconv_ErrRange), ("strconv.ErrSyntax", laid_strconv_ErrSyntax), ("unicode/utf8.first", laid_unicode_utf8_first)], narrowed := true }
def TorsorFitsUptoSaid : Prop := torsorFitsUptoRow.holds Tryz.pinned (OpenSpec.upto torsorFitsSpec)

/-- 'metrolablaw40.TorsorMeets', WHERE WHAT IT READS IS OF BULK AT MOST 1048576: true; the input reads as it did. -/
def torsorMeetsUptoRow : OpenClaim := { program := "ytbpegjgpdgeadaagreatdoor", sum := "3efcf3b2386ca292e55c71865eb8ca2d9e5dbca36dc873c95c9f0ce090540190", func := "metrolab/metrolablaw40.TorsorMeets", spec := "torsorMeets", inPlace := ["internal/bytealg.IndexByteString", "internal/bytealg.IndexString", "internal/bytealg.abigen_runtime_cmpstring", "internal/abi.NoEscape"], unfollowed := true, recurses := true, named := ["internal/bytealg.MaxLen", "unicode/utf8.first", "unicode/utf8.acceptRanges", "strconv.ErrSyntax", "strconv.ErrRange", "internal/strconv.uint64pow10", "math/bits.deBruijn32tab", "math/bits.deBruijn64tab"], apart := false, laid := [("math/bits.deBruijn32tab", laid_math_bits_deBruijn32tab), ("math/bits.deBruijn64tab", laid_math_bits_deBruijn64tab), ("internal/strconv.uint64pow10", laid_internal_strconv_uint64pow10), ("unicode/utf8.acceptRanges", laid_unicode_utf8_acceptRanges), ("strconv.ErrRange", laid_strconv_ErrRange), ("strconv.ErrSyntax", laid_strconv_ErrSyntax), ("unicode/utf8.first", laid_unicode_utf8_first)], narrowed := true }
def TorsorMeetsUptoSaid : Prop := torsorMeetsUptoRow.holds Tryz.pinned (OpenSpec.upto torsorMeetsSpec)

end Rows
end Go.Proofs.YtbpegjgpdgeadaaGreatDoor

/-
  NARROWER THAN 'FOR EVERY INPUT', by the rows' own cells (each row's printed sentence says how): ExprSimplify: loops, laid · ExprValue: loops, laid · ExprLiteral: laid · ExprDerive: loops, laid · ExprDeriveFree: loops, laid · ExprSubstValue: loops, laid · ExprBranchValue: loops, laid · ExprSimpleValue: loops, laid · ExprDeriveParts: loops, laid · ExprSubst: loops, laid · ExprValid: loops, laid · ExprParses: laid · ExprPrints: loops, laid · ExprNormal: laid.
  DERIVED. THE GIVEN ROWS OF THIS SEAT. 14 by the template 'for every input the law returns true; each argument reads behind the call as it read before'; 0 by the template 'total and deterministic' (their statements: YtmblpmegfmgjgaaGreatDoorTotals.lean).
  GIVEN WITH THE SEED: the statements are not yours to turn. If you find one false, say at which input.
  Laid BY PROGRAM, IN A SANDBOX (cutbox-rows.mjs): the forced cells as the released guide's own fill.sh prints them over the translation ec746c1074a7422d… (all of the seat's roots in one cut). By AI agents, Wed Nov 11 2026. No macro, syntax, notation, axiom, sorry.
-/
import Derived.Test.YtmblpmegfmgjgaaGreatDoorChecked
import GoSem.PinnedTables
import GoSem.Claim
import GoSem.ClaimJoined
import GoSem.ClaimMapViews
import Derived.JoinedTies
import Derived.KernelRfl
namespace Go.Proofs.YtmblpmegfmgjgaaGreatDoor
/- THE CELL 'sum', in the pinned program and in every row, IS THE sha256 OF THE DUMP (.gsa) THAT YtmblpmegfmgjgaaGreatDoorProg.lean LOADS. Nothing in Lean hashes anything: it is a label: what it is worth is what the hold of that sum in a sandbox is worth. -/
noncomputable def Tryz.pinned : Pinned := { name := "ytmblpmegfmgjgaagreatdoor", sum := "ec746c1074a7422dd718c144ec264bf0845ebfc6764fdb68094f19cb01cd4db1", checked := Tryz.checked }
namespace Rows
def none {H : Type} : Left H := { results := [], args := [] }

/- WHAT THE LISTED PACKAGE-LEVEL VARIABLES READ AS WHEN THE CALL BEGINS. Each datum BY PROGRAM (the guide's laid-datum.mjs) off the statement by which the dump's own 'gosem.cut.vars' lays the variable. In a bare row this is a premise. The card (YtmblpmegfmgjgaaGreatDoorCards.lean) ties it to the program's text. -/
def laid_math_bits_deBruijn32tab {H : Type} : DataW H := .agg [.lit (.int .u8 0), .lit (.int .u8 1), .lit (.int .u8 28), .lit (.int .u8 2), .lit (.int .u8 29), .lit (.int .u8 14), .lit (.int .u8 24), .lit (.int .u8 3), .lit (.int .u8 30), .lit (.int .u8 22), .lit (.int .u8 20), .lit (.int .u8 15), .lit (.int .u8 25), .lit (.int .u8 17), .lit (.int .u8 4), .lit (.int .u8 8), .lit (.int .u8 31), .lit (.int .u8 27), .lit (.int .u8 13), .lit (.int .u8 23), .lit (.int .u8 21), .lit (.int .u8 19), .lit (.int .u8 16), .lit (.int .u8 7), .lit (.int .u8 26), .lit (.int .u8 12), .lit (.int .u8 18), .lit (.int .u8 6), .lit (.int .u8 11), .lit (.int .u8 5), .lit (.int .u8 10), .lit (.int .u8 9)]
def laid_math_bits_deBruijn64tab {H : Type} : DataW H := .agg [.lit (.int .u8 0), .lit (.int .u8 1), .lit (.int .u8 56), .lit (.int .u8 2), .lit (.int .u8 57), .lit (.int .u8 49), .lit (.int .u8 28), .lit (.int .u8 3), .lit (.int .u8 61), .lit (.int .u8 58), .lit (.int .u8 42), .lit (.int .u8 50), .lit (.int .u8 38), .lit (.int .u8 29), .lit (.int .u8 17), .lit (.int .u8 4), .lit (.int .u8 62), .lit (.int .u8 47), .lit (.int .u8 59), .lit (.int .u8 36), .lit (.int .u8 45), .lit (.int .u8 43), .lit (.int .u8 51), .lit (.int .u8 22), .lit (.int .u8 53), .lit (.int .u8 39), .lit (.int .u8 33), .lit (.int .u8 30), .lit (.int .u8 24), .lit (.int .u8 18), .lit (.int .u8 12), .lit (.int .u8 5), .lit (.int .u8 63), .lit (.int .u8 55), .lit (.int .u8 48), .lit (.int .u8 27), .lit (.int .u8 60), .lit (.int .u8 41), .lit (.int .u8 37), .lit (.int .u8 16), .lit (.int .u8 46), .lit (.int .u8 35), .lit (.int .u8 44), .lit (.int .u8 21), .lit (.int .u8 52), .lit (.int .u8 32), .lit (.int .u8 23), .lit (.int .u8 11), .lit (.int .u8 54), .lit (.int .u8 26), .lit (.int .u8 40), .lit (.int .u8 15), .lit (.int .u8 34), .lit (.int .u8 20), .lit (.int .u8 31), .lit (.int .u8 10), .lit (.int .u8 25), .lit (.int .u8 14), .lit (.int .u8 19), .lit (.int .u8 9), .lit (.int .u8 13), .lit (.int .u8 8), .lit (.int .u8 7), .lit (.int .u8 6)]
def laid_internal_strconv_uint64pow10 {H : Type} : DataW H := .agg [.lit (.int .u64 1), .lit (.int .u64 10), .lit (.int .u64 100), .lit (.int .u64 1000), .lit (.int .u64 10000), .lit (.int .u64 100000), .lit (.int .u64 1000000), .lit (.int .u64 10000000), .lit (.int .u64 100000000), .lit (.int .u64 1000000000), .lit (.int .u64 10000000000), .lit (.int .u64 100000000000), .lit (.int .u64 1000000000000), .lit (.int .u64 10000000000000), .lit (.int .u64 100000000000000), .lit (.int .u64 1000000000000000), .lit (.int .u64 10000000000000000), .lit (.int .u64 100000000000000000), .lit (.int .u64 1000000000000000000), .lit (.int .u64 10000000000000000000)]
def laid_unicode_utf8_acceptRanges {H : Type} : DataW H := .agg [.agg [.lit (.int .u8 128), .lit (.int .u8 191)], .agg [.lit (.int .u8 160), .lit (.int .u8 191)], .agg [.lit (.int .u8 128), .lit (.int .u8 159)], .agg [.lit (.int .u8 144), .lit (.int .u8 191)], .agg [.lit (.int .u8 128), .lit (.int .u8 143)], .agg [.lit (.int .u8 0), .lit (.int .u8 0)], .agg [.lit (.int .u8 0), .lit (.int .u8 0)], .agg [.lit (.int .u8 0), .lit (.int .u8 0)], .agg [.lit (.int .u8 0), .lit (.int .u8 0)], .agg [.lit (.int .u8 0), .lit (.int .u8 0)], .agg [.lit (.int .u8 0), .lit (.int .u8 0)], .agg [.lit (.int .u8 0), .lit (.int .u8 0)], .agg [.lit (.int .u8 0), .lit (.int .u8 0)], .agg [.lit (.int .u8 0), .lit (.int .u8 0)], .agg [.lit (.int .u8 0), .lit (.int .u8 0)], .agg [.lit (.int .u8 0), .lit (.int .u8 0)]]
/-- One of Go's own tables, pinned by name: the form's constant. -/
def laid_unicode_utf8_first : DataW Unit := Go.Pinned.utf8First

/-- 'inequalitylaw04.ExprSimplify': WHATEVER THE INPUT: true; the input reads as it did. -/
def exprSimplifySpec : ChangeSpec := { name := "exprSimplify", fn := fun _ => fun
  | [d] => { results := [.lit (.bool true)], args := [d] }
  | _ => none }
def exprSimplifyRow : OpenClaim := { program := "ytmblpmegfmgjgaagreatdoor", sum := "ec746c1074a7422dd718c144ec264bf0845ebfc6764fdb68094f19cb01cd4db1", func := "inequality/inequalitylaw04.ExprSimplify", spec := "exprSimplify", inPlace := ["internal/bytealg.IndexByteString", "internal/bytealg.IndexString", "internal/abi.NoEscape"], unfollowed := true, recurses := true, named := ["math/bits.deBruijn32tab", "internal/bytealg.MaxLen", "unicode/utf8.first", "unicode/utf8.acceptRanges", "internal/strconv.uint64pow10", "math/bits.deBruijn64tab"], loops := true, apart := false, laid := [("math/bits.deBruijn32tab", laid_math_bits_deBruijn32tab), ("math/bits.deBruijn64tab", laid_math_bits_deBruijn64tab), ("internal/strconv.uint64pow10", laid_internal_strconv_uint64pow10), ("unicode/utf8.acceptRanges", laid_unicode_utf8_acceptRanges), ("unicode/utf8.first", laid_unicode_utf8_first)] }
def ExprSimplifySaid : Prop := exprSimplifyRow.holds Tryz.pinned (OpenSpec.ofChange exprSimplifySpec)

/-- ITS FALSE NEIGHBOUR: 'it returns false'. Refute it at one input. -/
def exprSimplifyWrong : ChangeSpec := { name := "exprSimplify", fn := fun _ => fun
  | [d] => { results := [.lit (.bool false)], args := [d] }
  | _ => none }
def ExprSimplifyWrongFalsely : Prop := exprSimplifyRow.holds Tryz.pinned (OpenSpec.ofChange exprSimplifyWrong)

/-- 'inequalitylaw04.ExprValue': WHATEVER THE INPUT: true; the input reads as it did. -/
def exprValueSpec : ChangeSpec := { name := "exprValue", fn := fun _ => fun
  | [d1, d2] => { results := [.lit (.bool true)], args := [d1, d2] }
  | _ => none }
def exprValueRow : OpenClaim := { program := "ytmblpmegfmgjgaagreatdoor", sum := "ec746c1074a7422dd718c144ec264bf0845ebfc6764fdb68094f19cb01cd4db1", func := "inequality/inequalitylaw04.ExprValue", spec := "exprValue", inPlace := ["internal/bytealg.IndexByteString", "internal/bytealg.IndexString", "internal/abi.NoEscape"], unfollowed := true, recurses := true, named := ["math/bits.deBruijn32tab", "internal/bytealg.MaxLen", "unicode/utf8.first", "unicode/utf8.acceptRanges", "internal/strconv.uint64pow10", "math/bits.deBruijn64tab"], loops := true, apart := false, laid := [("math/bits.deBruijn32tab", laid_math_bits_deBruijn32tab), ("math/bits.deBruijn64tab", laid_math_bits_deBruijn64tab), ("internal/strconv.uint64pow10", laid_internal_strconv_uint64pow10), ("unicode/utf8.acceptRanges", laid_unicode_utf8_acceptRanges), ("unicode/utf8.first", laid_unicode_utf8_first)] }
def ExprValueSaid : Prop := exprValueRow.holds Tryz.pinned (OpenSpec.ofChange exprValueSpec)

/-- ITS FALSE NEIGHBOUR: 'it returns false'. Refute it at one input. -/
def exprValueWrong : ChangeSpec := { name := "exprValue", fn := fun _ => fun
  | [d1, d2] => { results := [.lit (.bool false)], args := [d1, d2] }
  | _ => none }
def ExprValueWrongFalsely : Prop := exprValueRow.holds Tryz.pinned (OpenSpec.ofChange exprValueWrong)

/-- 'inequalitylaw04.ExprLiteral': WHATEVER THE INPUT: true; the input reads as it did. -/
def exprLiteralSpec : ChangeSpec := { name := "exprLiteral", fn := fun _ => fun
  | [d] => { results := [.lit (.bool true)], args := [d] }
  | _ => none }
def exprLiteralRow : OpenClaim := { program := "ytmblpmegfmgjgaagreatdoor", sum := "ec746c1074a7422dd718c144ec264bf0845ebfc6764fdb68094f19cb01cd4db1", func := "inequality/inequalitylaw04.ExprLiteral", spec := "exprLiteral", inPlace := ["internal/bytealg.IndexByteString", "internal/bytealg.IndexString", "internal/abi.NoEscape"], unfollowed := true, recurses := true, named := ["math/bits.deBruijn32tab", "internal/bytealg.MaxLen", "unicode/utf8.first", "unicode/utf8.acceptRanges", "internal/strconv.uint64pow10", "math/bits.deBruijn64tab"], apart := false, laid := [("math/bits.deBruijn32tab", laid_math_bits_deBruijn32tab), ("math/bits.deBruijn64tab", laid_math_bits_deBruijn64tab), ("internal/strconv.uint64pow10", laid_internal_strconv_uint64pow10), ("unicode/utf8.acceptRanges", laid_unicode_utf8_acceptRanges), ("unicode/utf8.first", laid_unicode_utf8_first)] }
def ExprLiteralSaid : Prop := exprLiteralRow.holds Tryz.pinned (OpenSpec.ofChange exprLiteralSpec)

/-- ITS FALSE NEIGHBOUR: 'it returns false'. Refute it at one input. -/
def exprLiteralWrong : ChangeSpec := { name := "exprLiteral", fn := fun _ => fun
  | [d] => { results := [.lit (.bool false)], args := [d] }
  | _ => none }
def ExprLiteralWrongFalsely : Prop := exprLiteralRow.holds Tryz.pinned (OpenSpec.ofChange exprLiteralWrong)

/-- 'inequalitylaw04.ExprDerive': WHATEVER THE INPUT: true; the input reads as it did. -/
def exprDeriveSpec : ChangeSpec := { name := "exprDerive", fn := fun _ => fun
  | [d1, d2] => { results := [.lit (.bool true)], args := [d1, d2] }
  | _ => none }
def exprDeriveRow : OpenClaim := { program := "ytmblpmegfmgjgaagreatdoor", sum := "ec746c1074a7422dd718c144ec264bf0845ebfc6764fdb68094f19cb01cd4db1", func := "inequality/inequalitylaw04.ExprDerive", spec := "exprDerive", inPlace := ["internal/bytealg.IndexByteString", "internal/bytealg.IndexString", "internal/abi.NoEscape"], unfollowed := true, recurses := true, named := ["math/bits.deBruijn32tab", "internal/bytealg.MaxLen", "unicode/utf8.first", "unicode/utf8.acceptRanges", "internal/strconv.uint64pow10", "math/bits.deBruijn64tab"], loops := true, apart := false, laid := [("math/bits.deBruijn32tab", laid_math_bits_deBruijn32tab), ("math/bits.deBruijn64tab", laid_math_bits_deBruijn64tab), ("internal/strconv.uint64pow10", laid_internal_strconv_uint64pow10), ("unicode/utf8.acceptRanges", laid_unicode_utf8_acceptRanges), ("unicode/utf8.first", laid_unicode_utf8_first)] }
def ExprDeriveSaid : Prop := exprDeriveRow.holds Tryz.pinned (OpenSpec.ofChange exprDeriveSpec)

/-- ITS FALSE NEIGHBOUR: 'it returns false'. Refute it at one input. -/
def exprDeriveWrong : ChangeSpec := { name := "exprDerive", fn := fun _ => fun
  | [d1, d2] => { results := [.lit (.bool false)], args := [d1, d2] }
  | _ => none }
def ExprDeriveWrongFalsely : Prop := exprDeriveRow.holds Tryz.pinned (OpenSpec.ofChange exprDeriveWrong)

/-- 'inequalitylaw04.ExprDeriveFree': WHATEVER THE INPUT: true; the input reads as it did. -/
def exprDeriveFreeSpec : ChangeSpec := { name := "exprDeriveFree", fn := fun _ => fun
  | [d1, d2] => { results := [.lit (.bool true)], args := [d1, d2] }
  | _ => none }
def exprDeriveFreeRow : OpenClaim := { program := "ytmblpmegfmgjgaagreatdoor", sum := "ec746c1074a7422dd718c144ec264bf0845ebfc6764fdb68094f19cb01cd4db1", func := "inequality/inequalitylaw04.ExprDeriveFree", spec := "exprDeriveFree", inPlace := ["internal/bytealg.IndexByteString", "internal/bytealg.IndexString", "internal/abi.NoEscape"], unfollowed := true, recurses := true, named := ["math/bits.deBruijn32tab", "internal/bytealg.MaxLen", "unicode/utf8.first", "unicode/utf8.acceptRanges", "internal/strconv.uint64pow10", "math/bits.deBruijn64tab"], loops := true, apart := false, laid := [("math/bits.deBruijn32tab", laid_math_bits_deBruijn32tab), ("math/bits.deBruijn64tab", laid_math_bits_deBruijn64tab), ("internal/strconv.uint64pow10", laid_internal_strconv_uint64pow10), ("unicode/utf8.acceptRanges", laid_unicode_utf8_acceptRanges), ("unicode/utf8.first", laid_unicode_utf8_first)] }
def ExprDeriveFreeSaid : Prop := exprDeriveFreeRow.holds Tryz.pinned (OpenSpec.ofChange exprDeriveFreeSpec)

/-- ITS FALSE NEIGHBOUR: 'it returns false'. Refute it at one input. -/
def exprDeriveFreeWrong : ChangeSpec := { name := "exprDeriveFree", fn := fun _ => fun
  | [d1, d2] => { results := [.lit (.bool false)], args := [d1, d2] }
  | _ => none }
def ExprDeriveFreeWrongFalsely : Prop := exprDeriveFreeRow.holds Tryz.pinned (OpenSpec.ofChange exprDeriveFreeWrong)

/-- 'inequalitylaw04.ExprSubstValue': WHATEVER THE INPUT: true; the input reads as it did. -/
def exprSubstValueSpec : ChangeSpec := { name := "exprSubstValue", fn := fun _ => fun
  | [d1, d2] => { results := [.lit (.bool true)], args := [d1, d2] }
  | _ => none }
def exprSubstValueRow : OpenClaim := { program := "ytmblpmegfmgjgaagreatdoor", sum := "ec746c1074a7422dd718c144ec264bf0845ebfc6764fdb68094f19cb01cd4db1", func := "inequality/inequalitylaw04.ExprSubstValue", spec := "exprSubstValue", inPlace := ["internal/bytealg.IndexByteString", "internal/bytealg.IndexString", "internal/abi.NoEscape"], unfollowed := true, recurses := true, named := ["math/bits.deBruijn32tab", "internal/bytealg.MaxLen", "unicode/utf8.first", "unicode/utf8.acceptRanges", "internal/strconv.uint64pow10", "math/bits.deBruijn64tab"], loops := true, apart := false, laid := [("math/bits.deBruijn32tab", laid_math_bits_deBruijn32tab), ("math/bits.deBruijn64tab", laid_math_bits_deBruijn64tab), ("internal/strconv.uint64pow10", laid_internal_strconv_uint64pow10), ("unicode/utf8.acceptRanges", laid_unicode_utf8_acceptRanges), ("unicode/utf8.first", laid_unicode_utf8_first)] }
def ExprSubstValueSaid : Prop := exprSubstValueRow.holds Tryz.pinned (OpenSpec.ofChange exprSubstValueSpec)

/-- ITS FALSE NEIGHBOUR: 'it returns false'. Refute it at one input. -/
def exprSubstValueWrong : ChangeSpec := { name := "exprSubstValue", fn := fun _ => fun
  | [d1, d2] => { results := [.lit (.bool false)], args := [d1, d2] }
  | _ => none }
def ExprSubstValueWrongFalsely : Prop := exprSubstValueRow.holds Tryz.pinned (OpenSpec.ofChange exprSubstValueWrong)

/-- 'inequalitylaw04.ExprBranchValue': WHATEVER THE INPUT: true; the input reads as it did. -/
def exprBranchValueSpec : ChangeSpec := { name := "exprBranchValue", fn := fun _ => fun
  | [d1, d2] => { results := [.lit (.bool true)], args := [d1, d2] }
  | _ => none }
def exprBranchValueRow : OpenClaim := { program := "ytmblpmegfmgjgaagreatdoor", sum := "ec746c1074a7422dd718c144ec264bf0845ebfc6764fdb68094f19cb01cd4db1", func := "inequality/inequalitylaw04.ExprBranchValue", spec := "exprBranchValue", inPlace := ["internal/bytealg.IndexByteString", "internal/bytealg.IndexString", "internal/abi.NoEscape"], unfollowed := true, recurses := true, named := ["math/bits.deBruijn32tab", "internal/bytealg.MaxLen", "unicode/utf8.first", "unicode/utf8.acceptRanges", "internal/strconv.uint64pow10", "math/bits.deBruijn64tab"], loops := true, apart := false, laid := [("math/bits.deBruijn32tab", laid_math_bits_deBruijn32tab), ("math/bits.deBruijn64tab", laid_math_bits_deBruijn64tab), ("internal/strconv.uint64pow10", laid_internal_strconv_uint64pow10), ("unicode/utf8.acceptRanges", laid_unicode_utf8_acceptRanges), ("unicode/utf8.first", laid_unicode_utf8_first)] }
def ExprBranchValueSaid : Prop := exprBranchValueRow.holds Tryz.pinned (OpenSpec.ofChange exprBranchValueSpec)

/-- ITS FALSE NEIGHBOUR: 'it returns false'. Refute it at one input. -/
def exprBranchValueWrong : ChangeSpec := { name := "exprBranchValue", fn := fun _ => fun
  | [d1, d2] => { results := [.lit (.bool false)], args := [d1, d2] }
  | _ => none }
def ExprBranchValueWrongFalsely : Prop := exprBranchValueRow.holds Tryz.pinned (OpenSpec.ofChange exprBranchValueWrong)

/-- 'inequalitylaw04.ExprSimpleValue': WHATEVER THE INPUT: true; the input reads as it did. -/
def exprSimpleValueSpec : ChangeSpec := { name := "exprSimpleValue", fn := fun _ => fun
  | [d1, d2] => { results := [.lit (.bool true)], args := [d1, d2] }
  | _ => none }
def exprSimpleValueRow : OpenClaim := { program := "ytmblpmegfmgjgaagreatdoor", sum := "ec746c1074a7422dd718c144ec264bf0845ebfc6764fdb68094f19cb01cd4db1", func := "inequality/inequalitylaw04.ExprSimpleValue", spec := "exprSimpleValue", inPlace := ["internal/bytealg.IndexByteString", "internal/bytealg.IndexString", "internal/abi.NoEscape"], unfollowed := true, recurses := true, named := ["math/bits.deBruijn32tab", "internal/bytealg.MaxLen", "unicode/utf8.first", "unicode/utf8.acceptRanges", "internal/strconv.uint64pow10", "math/bits.deBruijn64tab"], loops := true, apart := false, laid := [("math/bits.deBruijn32tab", laid_math_bits_deBruijn32tab), ("math/bits.deBruijn64tab", laid_math_bits_deBruijn64tab), ("internal/strconv.uint64pow10", laid_internal_strconv_uint64pow10), ("unicode/utf8.acceptRanges", laid_unicode_utf8_acceptRanges), ("unicode/utf8.first", laid_unicode_utf8_first)] }
def ExprSimpleValueSaid : Prop := exprSimpleValueRow.holds Tryz.pinned (OpenSpec.ofChange exprSimpleValueSpec)

/-- ITS FALSE NEIGHBOUR: 'it returns false'. Refute it at one input. -/
def exprSimpleValueWrong : ChangeSpec := { name := "exprSimpleValue", fn := fun _ => fun
  | [d1, d2] => { results := [.lit (.bool false)], args := [d1, d2] }
  | _ => none }
def ExprSimpleValueWrongFalsely : Prop := exprSimpleValueRow.holds Tryz.pinned (OpenSpec.ofChange exprSimpleValueWrong)

/-- 'inequalitylaw04.ExprDeriveParts': WHATEVER THE INPUT: true; the input reads as it did. -/
def exprDerivePartsSpec : ChangeSpec := { name := "exprDeriveParts", fn := fun _ => fun
  | [d] => { results := [.lit (.bool true)], args := [d] }
  | _ => none }
def exprDerivePartsRow : OpenClaim := { program := "ytmblpmegfmgjgaagreatdoor", sum := "ec746c1074a7422dd718c144ec264bf0845ebfc6764fdb68094f19cb01cd4db1", func := "inequality/inequalitylaw04.ExprDeriveParts", spec := "exprDeriveParts", inPlace := ["internal/bytealg.IndexByteString", "internal/bytealg.IndexString", "internal/abi.NoEscape"], unfollowed := true, recurses := true, named := ["math/bits.deBruijn32tab", "internal/bytealg.MaxLen", "unicode/utf8.first", "unicode/utf8.acceptRanges", "internal/strconv.uint64pow10", "math/bits.deBruijn64tab"], loops := true, apart := false, laid := [("math/bits.deBruijn32tab", laid_math_bits_deBruijn32tab), ("math/bits.deBruijn64tab", laid_math_bits_deBruijn64tab), ("internal/strconv.uint64pow10", laid_internal_strconv_uint64pow10), ("unicode/utf8.acceptRanges", laid_unicode_utf8_acceptRanges), ("unicode/utf8.first", laid_unicode_utf8_first)] }
def ExprDerivePartsSaid : Prop := exprDerivePartsRow.holds Tryz.pinned (OpenSpec.ofChange exprDerivePartsSpec)

/-- ITS FALSE NEIGHBOUR: 'it returns false'. Refute it at one input. -/
def exprDerivePartsWrong : ChangeSpec := { name := "exprDeriveParts", fn := fun _ => fun
  | [d] => { results := [.lit (.bool false)], args := [d] }
  | _ => none }
def ExprDerivePartsWrongFalsely : Prop := exprDerivePartsRow.holds Tryz.pinned (OpenSpec.ofChange exprDerivePartsWrong)

/-- 'inequalitylaw04.ExprSubst': WHATEVER THE INPUT: true; the input reads as it did. -/
def exprSubstSpec : ChangeSpec := { name := "exprSubst", fn := fun _ => fun
  | [d1, d2] => { results := [.lit (.bool true)], args := [d1, d2] }
  | _ => none }
def exprSubstRow : OpenClaim := { program := "ytmblpmegfmgjgaagreatdoor", sum := "ec746c1074a7422dd718c144ec264bf0845ebfc6764fdb68094f19cb01cd4db1", func := "inequality/inequalitylaw04.ExprSubst", spec := "exprSubst", inPlace := ["internal/bytealg.IndexByteString", "internal/bytealg.IndexString", "internal/abi.NoEscape"], unfollowed := true, recurses := true, named := ["math/bits.deBruijn32tab", "internal/bytealg.MaxLen", "unicode/utf8.first", "unicode/utf8.acceptRanges", "internal/strconv.uint64pow10", "math/bits.deBruijn64tab"], loops := true, apart := false, laid := [("math/bits.deBruijn32tab", laid_math_bits_deBruijn32tab), ("math/bits.deBruijn64tab", laid_math_bits_deBruijn64tab), ("internal/strconv.uint64pow10", laid_internal_strconv_uint64pow10), ("unicode/utf8.acceptRanges", laid_unicode_utf8_acceptRanges), ("unicode/utf8.first", laid_unicode_utf8_first)] }
def ExprSubstSaid : Prop := exprSubstRow.holds Tryz.pinned (OpenSpec.ofChange exprSubstSpec)

/-- ITS FALSE NEIGHBOUR: 'it returns false'. Refute it at one input. -/
def exprSubstWrong : ChangeSpec := { name := "exprSubst", fn := fun _ => fun
  | [d1, d2] => { results := [.lit (.bool false)], args := [d1, d2] }
  | _ => none }
def ExprSubstWrongFalsely : Prop := exprSubstRow.holds Tryz.pinned (OpenSpec.ofChange exprSubstWrong)

/-- 'inequalitylaw04.ExprValid': WHATEVER THE INPUT: true; the input reads as it did. -/
def exprValidSpec : ChangeSpec := { name := "exprValid", fn := fun _ => fun
  | [d] => { results := [.lit (.bool true)], args := [d] }
  | _ => none }
def exprValidRow : OpenClaim := { program := "ytmblpmegfmgjgaagreatdoor", sum := "ec746c1074a7422dd718c144ec264bf0845ebfc6764fdb68094f19cb01cd4db1", func := "inequality/inequalitylaw04.ExprValid", spec := "exprValid", inPlace := ["internal/bytealg.IndexByteString", "internal/bytealg.IndexString", "internal/abi.NoEscape"], unfollowed := true, recurses := true, named := ["math/bits.deBruijn32tab", "internal/bytealg.MaxLen", "unicode/utf8.first", "unicode/utf8.acceptRanges", "internal/strconv.uint64pow10", "math/bits.deBruijn64tab"], loops := true, apart := false, laid := [("math/bits.deBruijn32tab", laid_math_bits_deBruijn32tab), ("math/bits.deBruijn64tab", laid_math_bits_deBruijn64tab), ("internal/strconv.uint64pow10", laid_internal_strconv_uint64pow10), ("unicode/utf8.acceptRanges", laid_unicode_utf8_acceptRanges), ("unicode/utf8.first", laid_unicode_utf8_first)] }
def ExprValidSaid : Prop := exprValidRow.holds Tryz.pinned (OpenSpec.ofChange exprValidSpec)

/-- ITS FALSE NEIGHBOUR: 'it returns false'. Refute it at one input. -/
def exprValidWrong : ChangeSpec := { name := "exprValid", fn := fun _ => fun
  | [d] => { results := [.lit (.bool false)], args := [d] }
  | _ => none }
def ExprValidWrongFalsely : Prop := exprValidRow.holds Tryz.pinned (OpenSpec.ofChange exprValidWrong)

/-- 'inequalitylaw04.ExprParses': WHATEVER THE INPUT: true; the input reads as it did. -/
def exprParsesSpec : ChangeSpec := { name := "exprParses", fn := fun _ => fun
  | [d] => { results := [.lit (.bool true)], args := [d] }
  | _ => none }
def exprParsesRow : OpenClaim := { program := "ytmblpmegfmgjgaagreatdoor", sum := "ec746c1074a7422dd718c144ec264bf0845ebfc6764fdb68094f19cb01cd4db1", func := "inequality/inequalitylaw04.ExprParses", spec := "exprParses", inPlace := ["internal/bytealg.IndexByteString", "internal/bytealg.IndexString", "internal/abi.NoEscape"], unfollowed := true, recurses := true, named := ["math/bits.deBruijn32tab", "internal/bytealg.MaxLen", "unicode/utf8.first", "unicode/utf8.acceptRanges", "internal/strconv.uint64pow10", "math/bits.deBruijn64tab"], apart := false, laid := [("math/bits.deBruijn32tab", laid_math_bits_deBruijn32tab), ("math/bits.deBruijn64tab", laid_math_bits_deBruijn64tab), ("internal/strconv.uint64pow10", laid_internal_strconv_uint64pow10), ("unicode/utf8.acceptRanges", laid_unicode_utf8_acceptRanges), ("unicode/utf8.first", laid_unicode_utf8_first)] }
def ExprParsesSaid : Prop := exprParsesRow.holds Tryz.pinned (OpenSpec.ofChange exprParsesSpec)

/-- ITS FALSE NEIGHBOUR: 'it returns false'. Refute it at one input. -/
def exprParsesWrong : ChangeSpec := { name := "exprParses", fn := fun _ => fun
  | [d] => { results := [.lit (.bool false)], args := [d] }
  | _ => none }
def ExprParsesWrongFalsely : Prop := exprParsesRow.holds Tryz.pinned (OpenSpec.ofChange exprParsesWrong)

/-- 'inequalitylaw04.ExprPrints': WHATEVER THE INPUT: true; the input reads as it did. -/
def exprPrintsSpec : ChangeSpec := { name := "exprPrints", fn := fun _ => fun
  | [d] => { results := [.lit (.bool true)], args := [d] }
  | _ => none }
def exprPrintsRow : OpenClaim := { program := "ytmblpmegfmgjgaagreatdoor", sum := "ec746c1074a7422dd718c144ec264bf0845ebfc6764fdb68094f19cb01cd4db1", func := "inequality/inequalitylaw04.ExprPrints", spec := "exprPrints", inPlace := ["internal/abi.NoEscape", "internal/bytealg.IndexByteString", "internal/bytealg.IndexString"], unfollowed := true, recurses := true, named := ["math/bits.deBruijn32tab", "internal/strconv.uint64pow10", "math/bits.deBruijn64tab", "internal/bytealg.MaxLen", "unicode/utf8.first", "unicode/utf8.acceptRanges"], loops := true, apart := false, laid := [("math/bits.deBruijn32tab", laid_math_bits_deBruijn32tab), ("math/bits.deBruijn64tab", laid_math_bits_deBruijn64tab), ("internal/strconv.uint64pow10", laid_internal_strconv_uint64pow10), ("unicode/utf8.acceptRanges", laid_unicode_utf8_acceptRanges), ("unicode/utf8.first", laid_unicode_utf8_first)] }
def ExprPrintsSaid : Prop := exprPrintsRow.holds Tryz.pinned (OpenSpec.ofChange exprPrintsSpec)

/-- ITS FALSE NEIGHBOUR: 'it returns false'. Refute it at one input. -/
def exprPrintsWrong : ChangeSpec := { name := "exprPrints", fn := fun _ => fun
  | [d] => { results := [.lit (.bool false)], args := [d] }
  | _ => none }
def ExprPrintsWrongFalsely : Prop := exprPrintsRow.holds Tryz.pinned (OpenSpec.ofChange exprPrintsWrong)

/-- 'inequalitylaw04.ExprNormal': WHATEVER THE INPUT: true; the input reads as it did. -/
def exprNormalSpec : ChangeSpec := { name := "exprNormal", fn := fun _ => fun
  | [d] => { results := [.lit (.bool true)], args := [d] }
  | _ => none }
def exprNormalRow : OpenClaim := { program := "ytmblpmegfmgjgaagreatdoor", sum := "ec746c1074a7422dd718c144ec264bf0845ebfc6764fdb68094f19cb01cd4db1", func := "inequality/inequalitylaw04.ExprNormal", spec := "exprNormal", inPlace := ["internal/bytealg.IndexByteString", "internal/bytealg.IndexString", "internal/abi.NoEscape"], unfollowed := true, recurses := true, named := ["math/bits.deBruijn32tab", "internal/bytealg.MaxLen", "unicode/utf8.first", "unicode/utf8.acceptRanges", "internal/strconv.uint64pow10", "math/bits.deBruijn64tab"], apart := false, laid := [("math/bits.deBruijn32tab", laid_math_bits_deBruijn32tab), ("math/bits.deBruijn64tab", laid_math_bits_deBruijn64tab), ("internal/strconv.uint64pow10", laid_internal_strconv_uint64pow10), ("unicode/utf8.acceptRanges", laid_unicode_utf8_acceptRanges), ("unicode/utf8.first", laid_unicode_utf8_first)] }
def ExprNormalSaid : Prop := exprNormalRow.holds Tryz.pinned (OpenSpec.ofChange exprNormalSpec)

/-- ITS FALSE NEIGHBOUR: 'it returns false'. Refute it at one input. -/
def exprNormalWrong : ChangeSpec := { name := "exprNormal", fn := fun _ => fun
  | [d] => { results := [.lit (.bool false)], args := [d] }
  | _ => none }
def ExprNormalWrongFalsely : Prop := exprNormalRow.holds Tryz.pinned (OpenSpec.ofChange exprNormalWrong)

/- THE SECOND FORM. 'bulk': how many values and letters a reading holds, each counted each time it is reached (what is shared counts as often as it is met; a slice's spare places count too). A statement '..UptoSaid' is the law's where the arguments, and the package variables that the reading takes, are together of bulk at most 1048576: NARROWER than '..Said'. Prove '..Said' where nothing that the law and all that it calls make is longer than what came in: it says more and counts as full. Else prove '..UptoSaid'. A law counts once. -/
mutual
def uptoBulk {H : Type} : DataW H → Nat
  | .lit (.string bytes) => bytes.length + 1
  | .lit _ => 1
  | .nil => 1
  | .ptr d => uptoBulk d + 1
  | .slice elems spare => uptoBulkAll elems + uptoBulkAll spare + 1
  | .agg parts => uptoBulkAll parts + 1
  | .iface _ d => uptoBulk d + 1
  | .map entries => uptoBulkEntries entries + 1
  | .held _ => 1
def uptoBulkAll {H : Type} : List (DataW H) → Nat
  | [] => 0
  | d :: r => uptoBulk d + uptoBulkAll r
def uptoBulkEntries {H : Type} : List (Lit × DataW H) → Nat
  | [] => 0
  | x :: r => uptoBulkEntry x + uptoBulkEntries r
def uptoBulkEntry {H : Type} : Lit × DataW H → Nat
  | (.string bytes, d) => bytes.length + uptoBulk d + 1
  | (_, d) => uptoBulk d + 1
 end
def uptoSmall : (H : Type) → List (DataW H) → Bool := fun _ ds => decide (uptoBulkAll ds ≤ 1048576)
def OpenSpec.upto (s : _root_.Go.ChangeSpec) : _root_.Go.OpenSpec := { _root_.Go.OpenSpec.ofChange s with cond := some uptoSmall }

/-- 'inequalitylaw04.ExprSimplify', WHERE WHAT IT READS IS OF BULK AT MOST 1048576: true; the input reads as it did. -/
def exprSimplifyUptoRow : OpenClaim := { program := "ytmblpmegfmgjgaagreatdoor", sum := "ec746c1074a7422dd718c144ec264bf0845ebfc6764fdb68094f19cb01cd4db1", func := "inequality/inequalitylaw04.ExprSimplify", spec := "exprSimplify", inPlace := ["internal/bytealg.IndexByteString", "internal/bytealg.IndexString", "internal/abi.NoEscape"], unfollowed := true, recurses := true, named := ["math/bits.deBruijn32tab", "internal/bytealg.MaxLen", "unicode/utf8.first", "unicode/utf8.acceptRanges", "internal/strconv.uint64pow10", "math/bits.deBruijn64tab"], loops := true, apart := false, laid := [("math/bits.deBruijn32tab", laid_math_bits_deBruijn32tab), ("math/bits.deBruijn64tab", laid_math_bits_deBruijn64tab), ("internal/strconv.uint64pow10", laid_internal_strconv_uint64pow10), ("unicode/utf8.acceptRanges", laid_unicode_utf8_acceptRanges), ("unicode/utf8.first", laid_unicode_utf8_first)], narrowed := true }
def ExprSimplifyUptoSaid : Prop := exprSimplifyUptoRow.holds Tryz.pinned (OpenSpec.upto exprSimplifySpec)

/-- 'inequalitylaw04.ExprValue', WHERE WHAT IT READS IS OF BULK AT MOST 1048576: true; the input reads as it did. -/
def exprValueUptoRow : OpenClaim := { program := "ytmblpmegfmgjgaagreatdoor", sum := "ec746c1074a7422dd718c144ec264bf0845ebfc6764fdb68094f19cb01cd4db1", func := "inequality/inequalitylaw04.ExprValue", spec := "exprValue", inPlace := ["internal/bytealg.IndexByteString", "internal/bytealg.IndexString", "internal/abi.NoEscape"], unfollowed := true, recurses := true, named := ["math/bits.deBruijn32tab", "internal/bytealg.MaxLen", "unicode/utf8.first", "unicode/utf8.acceptRanges", "internal/strconv.uint64pow10", "math/bits.deBruijn64tab"], loops := true, apart := false, laid := [("math/bits.deBruijn32tab", laid_math_bits_deBruijn32tab), ("math/bits.deBruijn64tab", laid_math_bits_deBruijn64tab), ("internal/strconv.uint64pow10", laid_internal_strconv_uint64pow10), ("unicode/utf8.acceptRanges", laid_unicode_utf8_acceptRanges), ("unicode/utf8.first", laid_unicode_utf8_first)], narrowed := true }
def ExprValueUptoSaid : Prop := exprValueUptoRow.holds Tryz.pinned (OpenSpec.upto exprValueSpec)

/-- 'inequalitylaw04.ExprLiteral', WHERE WHAT IT READS IS OF BULK AT MOST 1048576: true; the input reads as it did. -/
def exprLiteralUptoRow : OpenClaim := { program := "ytmblpmegfmgjgaagreatdoor", sum := "ec746c1074a7422dd718c144ec264bf0845ebfc6764fdb68094f19cb01cd4db1", func := "inequality/inequalitylaw04.ExprLiteral", spec := "exprLiteral", inPlace := ["internal/bytealg.IndexByteString", "internal/bytealg.IndexString", "internal/abi.NoEscape"], unfollowed := true, recurses := true, named := ["math/bits.deBruijn32tab", "internal/bytealg.MaxLen", "unicode/utf8.first", "unicode/utf8.acceptRanges", "internal/strconv.uint64pow10", "math/bits.deBruijn64tab"], apart := false, laid := [("math/bits.deBruijn32tab", laid_math_bits_deBruijn32tab), ("math/bits.deBruijn64tab", laid_math_bits_deBruijn64tab), ("internal/strconv.uint64pow10", laid_internal_strconv_uint64pow10), ("unicode/utf8.acceptRanges", laid_unicode_utf8_acceptRanges), ("unicode/utf8.first", laid_unicode_utf8_first)], narrowed := true }
def ExprLiteralUptoSaid : Prop := exprLiteralUptoRow.holds Tryz.pinned (OpenSpec.upto exprLiteralSpec)

/-- 'inequalitylaw04.ExprDerive', WHERE WHAT IT READS IS OF BULK AT MOST 1048576: true; the input reads as it did. -/
def exprDeriveUptoRow : OpenClaim := { program := "ytmblpmegfmgjgaagreatdoor", sum := "ec746c1074a7422dd718c144ec264bf0845ebfc6764fdb68094f19cb01cd4db1", func := "inequality/inequalitylaw04.ExprDerive", spec := "exprDerive", inPlace := ["internal/bytealg.IndexByteString", "internal/bytealg.IndexString", "internal/abi.NoEscape"], unfollowed := true, recurses := true, named := ["math/bits.deBruijn32tab", "internal/bytealg.MaxLen", "unicode/utf8.first", "unicode/utf8.acceptRanges", "internal/strconv.uint64pow10", "math/bits.deBruijn64tab"], loops := true, apart := false, laid := [("math/bits.deBruijn32tab", laid_math_bits_deBruijn32tab), ("math/bits.deBruijn64tab", laid_math_bits_deBruijn64tab), ("internal/strconv.uint64pow10", laid_internal_strconv_uint64pow10), ("unicode/utf8.acceptRanges", laid_unicode_utf8_acceptRanges), ("unicode/utf8.first", laid_unicode_utf8_first)], narrowed := true }
def ExprDeriveUptoSaid : Prop := exprDeriveUptoRow.holds Tryz.pinned (OpenSpec.upto exprDeriveSpec)

/-- 'inequalitylaw04.ExprDeriveFree', WHERE WHAT IT READS IS OF BULK AT MOST 1048576: true; the input reads as it did. -/
def exprDeriveFreeUptoRow : OpenClaim := { program := "ytmblpmegfmgjgaagreatdoor", sum := "ec746c1074a7422dd718c144ec264bf0845ebfc6764fdb68094f19cb01cd4db1", func := "inequality/inequalitylaw04.ExprDeriveFree", spec := "exprDeriveFree", inPlace := ["internal/bytealg.IndexByteString", "internal/bytealg.IndexString", "internal/abi.NoEscape"], unfollowed := true, recurses := true, named := ["math/bits.deBruijn32tab", "internal/bytealg.MaxLen", "unicode/utf8.first", "unicode/utf8.acceptRanges", "internal/strconv.uint64pow10", "math/bits.deBruijn64tab"], loops := true, apart := false, laid := [("math/bits.deBruijn32tab", laid_math_bits_deBruijn32tab), ("math/bits.deBruijn64tab", laid_math_bits_deBruijn64tab), ("internal/strconv.uint64pow10", laid_internal_strconv_uint64pow10), ("unicode/utf8.acceptRanges", laid_unicode_utf8_acceptRanges), ("unicode/utf8.first", laid_unicode_utf8_first)], narrowed := true }
def ExprDeriveFreeUptoSaid : Prop := exprDeriveFreeUptoRow.holds Tryz.pinned (OpenSpec.upto exprDeriveFreeSpec)

/-- 'inequalitylaw04.ExprSubstValue', WHERE WHAT IT READS IS OF BULK AT MOST 1048576: true; the input reads as it did. -/
def exprSubstValueUptoRow : OpenClaim := { program := "ytmblpmegfmgjgaagreatdoor", sum := "ec746c1074a7422dd718c144ec264bf0845ebfc6764fdb68094f19cb01cd4db1", func := "inequality/inequalitylaw04.ExprSubstValue", spec := "exprSubstValue", inPlace := ["internal/bytealg.IndexByteString", "internal/bytealg.IndexString", "internal/abi.NoEscape"], unfollowed := true, recurses := true, named := ["math/bits.deBruijn32tab", "internal/bytealg.MaxLen", "unicode/utf8.first", "unicode/utf8.acceptRanges", "internal/strconv.uint64pow10", "math/bits.deBruijn64tab"], loops := true, apart := false, laid := [("math/bits.deBruijn32tab", laid_math_bits_deBruijn32tab), ("math/bits.deBruijn64tab", laid_math_bits_deBruijn64tab), ("internal/strconv.uint64pow10", laid_internal_strconv_uint64pow10), ("unicode/utf8.acceptRanges", laid_unicode_utf8_acceptRanges), ("unicode/utf8.first", laid_unicode_utf8_first)], narrowed := true }
def ExprSubstValueUptoSaid : Prop := exprSubstValueUptoRow.holds Tryz.pinned (OpenSpec.upto exprSubstValueSpec)

/-- 'inequalitylaw04.ExprBranchValue', WHERE WHAT IT READS IS OF BULK AT MOST 1048576: true; the input reads as it did. -/
def exprBranchValueUptoRow : OpenClaim := { program := "ytmblpmegfmgjgaagreatdoor", sum := "ec746c1074a7422dd718c144ec264bf0845ebfc6764fdb68094f19cb01cd4db1", func := "inequality/inequalitylaw04.ExprBranchValue", spec := "exprBranchValue", inPlace := ["internal/bytealg.IndexByteString", "internal/bytealg.IndexString", "internal/abi.NoEscape"], unfollowed := true, recurses := true, named := ["math/bits.deBruijn32tab", "internal/bytealg.MaxLen", "unicode/utf8.first", "unicode/utf8.acceptRanges", "internal/strconv.uint64pow10", "math/bits.deBruijn64tab"], loops := true, apart := false, laid := [("math/bits.deBruijn32tab", laid_math_bits_deBruijn32tab), ("math/bits.deBruijn64tab", laid_math_bits_deBruijn64tab), ("internal/strconv.uint64pow10", laid_internal_strconv_uint64pow10), ("unicode/utf8.acceptRanges", laid_unicode_utf8_acceptRanges), ("unicode/utf8.first", laid_unicode_utf8_first)], narrowed := true }
def ExprBranchValueUptoSaid : Prop := exprBranchValueUptoRow.holds Tryz.pinned (OpenSpec.upto exprBranchValueSpec)

/-- 'inequalitylaw04.ExprSimpleValue', WHERE WHAT IT READS IS OF BULK AT MOST 1048576: true; the input reads as it did. -/
def exprSimpleValueUptoRow : OpenClaim := { program := "ytmblpmegfmgjgaagreatdoor", sum := "ec746c1074a7422dd718c144ec264bf0845ebfc6764fdb68094f19cb01cd4db1", func := "inequality/inequalitylaw04.ExprSimpleValue", spec := "exprSimpleValue", inPlace := ["internal/bytealg.IndexByteString", "internal/bytealg.IndexString", "internal/abi.NoEscape"], unfollowed := true, recurses := true, named := ["math/bits.deBruijn32tab", "internal/bytealg.MaxLen", "unicode/utf8.first", "unicode/utf8.acceptRanges", "internal/strconv.uint64pow10", "math/bits.deBruijn64tab"], loops := true, apart := false, laid := [("math/bits.deBruijn32tab", laid_math_bits_deBruijn32tab), ("math/bits.deBruijn64tab", laid_math_bits_deBruijn64tab), ("internal/strconv.uint64pow10", laid_internal_strconv_uint64pow10), ("unicode/utf8.acceptRanges", laid_unicode_utf8_acceptRanges), ("unicode/utf8.first", laid_unicode_utf8_first)], narrowed := true }
def ExprSimpleValueUptoSaid : Prop := exprSimpleValueUptoRow.holds Tryz.pinned (OpenSpec.upto exprSimpleValueSpec)

/-- 'inequalitylaw04.ExprDeriveParts', WHERE WHAT IT READS IS OF BULK AT MOST 1048576: true; the input reads as it did. -/
def exprDerivePartsUptoRow : OpenClaim := { program := "ytmblpmegfmgjgaagreatdoor", sum := "ec746c1074a7422dd718c144ec264bf0845ebfc6764fdb68094f19cb01cd4db1", func := "inequality/inequalitylaw04.ExprDeriveParts", spec := "exprDeriveParts", inPlace := ["internal/bytealg.IndexByteString", "internal/bytealg.IndexString", "internal/abi.NoEscape"], unfollowed := true, recurses := true, named := ["math/bits.deBruijn32tab", "internal/bytealg.MaxLen", "unicode/utf8.first", "unicode/utf8.acceptRanges", "internal/strconv.uint64pow10", "math/bits.deBruijn64tab"], loops := true, apart := false, laid := [("math/bits.deBruijn32tab", laid_math_bits_deBruijn32tab), ("math/bits.deBruijn64tab", laid_math_bits_deBruijn64tab), ("internal/strconv.uint64pow10", laid_internal_strconv_uint64pow10), ("unicode/utf8.acceptRanges", laid_unicode_utf8_acceptRanges), ("unicode/utf8.first", laid_unicode_utf8_first)], narrowed := true }
def ExprDerivePartsUptoSaid : Prop := exprDerivePartsUptoRow.holds Tryz.pinned (OpenSpec.upto exprDerivePartsSpec)

/-- 'inequalitylaw04.ExprSubst', WHERE WHAT IT READS IS OF BULK AT MOST 1048576: true; the input reads as it did. -/
def exprSubstUptoRow : OpenClaim := { program := "ytmblpmegfmgjgaagreatdoor", sum := "ec746c1074a7422dd718c144ec264bf0845ebfc6764fdb68094f19cb01cd4db1", func := "inequality/inequalitylaw04.ExprSubst", spec := "exprSubst", inPlace := ["internal/bytealg.IndexByteString", "internal/bytealg.IndexString", "internal/abi.NoEscape"], unfollowed := true, recurses := true, named := ["math/bits.deBruijn32tab", "internal/bytealg.MaxLen", "unicode/utf8.first", "unicode/utf8.acceptRanges", "internal/strconv.uint64pow10", "math/bits.deBruijn64tab"], loops := true, apart := false, laid := [("math/bits.deBruijn32tab", laid_math_bits_deBruijn32tab), ("math/bits.deBruijn64tab", laid_math_bits_deBruijn64tab), ("internal/strconv.uint64pow10", laid_internal_strconv_uint64pow10), ("unicode/utf8.acceptRanges", laid_unicode_utf8_acceptRanges), ("unicode/utf8.first", laid_unicode_utf8_first)], narrowed := true }
def ExprSubstUptoSaid : Prop := exprSubstUptoRow.holds Tryz.pinned (OpenSpec.upto exprSubstSpec)

/-- 'inequalitylaw04.ExprValid', WHERE WHAT IT READS IS OF BULK AT MOST 1048576: true; the input reads as it did. -/
def exprValidUptoRow : OpenClaim := { program := "ytmblpmegfmgjgaagreatdoor", sum := "ec746c1074a7422dd718c144ec264bf0845ebfc6764fdb68094f19cb01cd4db1", func := "inequality/inequalitylaw04.ExprValid", spec := "exprValid", inPlace := ["internal/bytealg.IndexByteString", "internal/bytealg.IndexString", "internal/abi.NoEscape"], unfollowed := true, recurses := true, named := ["math/bits.deBruijn32tab", "internal/bytealg.MaxLen", "unicode/utf8.first", "unicode/utf8.acceptRanges", "internal/strconv.uint64pow10", "math/bits.deBruijn64tab"], loops := true, apart := false, laid := [("math/bits.deBruijn32tab", laid_math_bits_deBruijn32tab), ("math/bits.deBruijn64tab", laid_math_bits_deBruijn64tab), ("internal/strconv.uint64pow10", laid_internal_strconv_uint64pow10), ("unicode/utf8.acceptRanges", laid_unicode_utf8_acceptRanges), ("unicode/utf8.first", laid_unicode_utf8_first)], narrowed := true }
def ExprValidUptoSaid : Prop := exprValidUptoRow.holds Tryz.pinned (OpenSpec.upto exprValidSpec)

/-- 'inequalitylaw04.ExprParses', WHERE WHAT IT READS IS OF BULK AT MOST 1048576: true; the input reads as it did. -/
def exprParsesUptoRow : OpenClaim := { program := "ytmblpmegfmgjgaagreatdoor", sum := "ec746c1074a7422dd718c144ec264bf0845ebfc6764fdb68094f19cb01cd4db1", func := "inequality/inequalitylaw04.ExprParses", spec := "exprParses", inPlace := ["internal/bytealg.IndexByteString", "internal/bytealg.IndexString", "internal/abi.NoEscape"], unfollowed := true, recurses := true, named := ["math/bits.deBruijn32tab", "internal/bytealg.MaxLen", "unicode/utf8.first", "unicode/utf8.acceptRanges", "internal/strconv.uint64pow10", "math/bits.deBruijn64tab"], apart := false, laid := [("math/bits.deBruijn32tab", laid_math_bits_deBruijn32tab), ("math/bits.deBruijn64tab", laid_math_bits_deBruijn64tab), ("internal/strconv.uint64pow10", laid_internal_strconv_uint64pow10), ("unicode/utf8.acceptRanges", laid_unicode_utf8_acceptRanges), ("unicode/utf8.first", laid_unicode_utf8_first)], narrowed := true }
def ExprParsesUptoSaid : Prop := exprParsesUptoRow.holds Tryz.pinned (OpenSpec.upto exprParsesSpec)

/-- 'inequalitylaw04.ExprPrints', WHERE WHAT IT READS IS OF BULK AT MOST 1048576: true; the input reads as it did. -/
def exprPrintsUptoRow : OpenClaim := { program := "ytmblpmegfmgjgaagreatdoor", sum := "ec746c1074a7422dd718c144ec264bf0845ebfc6764fdb68094f19cb01cd4db1", func := "inequality/inequalitylaw04.ExprPrints", spec := "exprPrints", inPlace := ["internal/abi.NoEscape", "internal/bytealg.IndexByteString", "internal/bytealg.IndexString"], unfollowed := true, recurses := true, named := ["math/bits.deBruijn32tab", "internal/strconv.uint64pow10", "math/bits.deBruijn64tab", "internal/bytealg.MaxLen", "unicode/utf8.first", "unicode/utf8.acceptRanges"], loops := true, apart := false, laid := [("math/bits.deBruijn32tab", laid_math_bits_deBruijn32tab), ("math/bits.deBruijn64tab", laid_math_bits_deBruijn64tab), ("internal/strconv.uint64pow10", laid_internal_strconv_uint64pow10), ("unicode/utf8.acceptRanges", laid_unicode_utf8_acceptRanges), ("unicode/utf8.first", laid_unicode_utf8_first)], narrowed := true }
def ExprPrintsUptoSaid : Prop := exprPrintsUptoRow.holds Tryz.pinned (OpenSpec.upto exprPrintsSpec)

/-- 'inequalitylaw04.ExprNormal', WHERE WHAT IT READS IS OF BULK AT MOST 1048576: true; the input reads as it did. -/
def exprNormalUptoRow : OpenClaim := { program := "ytmblpmegfmgjgaagreatdoor", sum := "ec746c1074a7422dd718c144ec264bf0845ebfc6764fdb68094f19cb01cd4db1", func := "inequality/inequalitylaw04.ExprNormal", spec := "exprNormal", inPlace := ["internal/bytealg.IndexByteString", "internal/bytealg.IndexString", "internal/abi.NoEscape"], unfollowed := true, recurses := true, named := ["math/bits.deBruijn32tab", "internal/bytealg.MaxLen", "unicode/utf8.first", "unicode/utf8.acceptRanges", "internal/strconv.uint64pow10", "math/bits.deBruijn64tab"], apart := false, laid := [("math/bits.deBruijn32tab", laid_math_bits_deBruijn32tab), ("math/bits.deBruijn64tab", laid_math_bits_deBruijn64tab), ("internal/strconv.uint64pow10", laid_internal_strconv_uint64pow10), ("unicode/utf8.acceptRanges", laid_unicode_utf8_acceptRanges), ("unicode/utf8.first", laid_unicode_utf8_first)], narrowed := true }
def ExprNormalUptoSaid : Prop := exprNormalUptoRow.holds Tryz.pinned (OpenSpec.upto exprNormalSpec)

end Rows
end Go.Proofs.YtmblpmegfmgjgaaGreatDoor

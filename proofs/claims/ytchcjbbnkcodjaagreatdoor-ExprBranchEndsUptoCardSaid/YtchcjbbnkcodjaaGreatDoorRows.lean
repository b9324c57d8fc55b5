/-
  NARROWER THAN 'FOR EVERY INPUT', by the rows' own cells (each row's printed sentence says how): ExprNames: laid · ExprParses: laid · ExprPrints: loops, laid · ExprNormal: laid · ExprSwap: loops, laid · ExprSubst: loops, laid · ExprEqual: loops, laid · ExprValid: loops, laid · ExprBranch: loops, laid · ExprBranchEnds: loops, laid · ExprPeriodic: loops, laid · ExprPeriodicParts: loops, laid.
  DERIVED. THE GIVEN ROWS OF THIS SEAT. 12 by the template 'for every input the law returns true; each argument reads behind the call as it read before'; 0 by the template 'total and deterministic' (their statements: YtchcjbbnkcodjaaGreatDoorTotals.lean).
  GIVEN WITH THE SEED: the statements are not yours to turn. If you find one false, say at which input.
  Laid BY PROGRAM, IN A SANDBOX (cutbox-rows.mjs): the forced cells as the released guide's own fill.sh prints them over the translation a5c107d675996b7f… (all of the seat's roots in one cut). By AI agents, Wed Nov 11 2026. No macro, syntax, notation, axiom, sorry.
-/
import Derived.Test.YtchcjbbnkcodjaaGreatDoorChecked
import GoSem.PinnedTables
import GoSem.Claim
import GoSem.ClaimJoined
import GoSem.ClaimMapViews
import Derived.JoinedTies
import Derived.KernelRfl
namespace Go.Proofs.YtchcjbbnkcodjaaGreatDoor
/- THE CELL 'sum', in the pinned program and in every row, IS THE sha256 OF THE DUMP (.gsa) THAT YtchcjbbnkcodjaaGreatDoorProg.lean LOADS. Nothing in Lean hashes anything: it is a label: what it is worth is what the hold of that sum in a sandbox is worth. -/
noncomputable def Tryz.pinned : Pinned := { name := "ytchcjbbnkcodjaagreatdoor", sum := "a5c107d675996b7f731b94527d148929c09f542c4e16d65901d4292d3b1cfe5a", checked := Tryz.checked }
namespace Rows
def none {H : Type} : Left H := { results := [], args := [] }

/- WHAT THE LISTED PACKAGE-LEVEL VARIABLES READ AS WHEN THE CALL BEGINS. Each datum BY PROGRAM (the guide's laid-datum.mjs) off the statement by which the dump's own 'gosem.cut.vars' lays the variable. In a bare row this is a premise. The card (YtchcjbbnkcodjaaGreatDoorCards.lean) ties it to the program's text. -/
def laid_math_bits_deBruijn32tab {H : Type} : DataW H := .agg [.lit (.int .u8 0), .lit (.int .u8 1), .lit (.int .u8 28), .lit (.int .u8 2), .lit (.int .u8 29), .lit (.int .u8 14), .lit (.int .u8 24), .lit (.int .u8 3), .lit (.int .u8 30), .lit (.int .u8 22), .lit (.int .u8 20), .lit (.int .u8 15), .lit (.int .u8 25), .lit (.int .u8 17), .lit (.int .u8 4), .lit (.int .u8 8), .lit (.int .u8 31), .lit (.int .u8 27), .lit (.int .u8 13), .lit (.int .u8 23), .lit (.int .u8 21), .lit (.int .u8 19), .lit (.int .u8 16), .lit (.int .u8 7), .lit (.int .u8 26), .lit (.int .u8 12), .lit (.int .u8 18), .lit (.int .u8 6), .lit (.int .u8 11), .lit (.int .u8 5), .lit (.int .u8 10), .lit (.int .u8 9)]
def laid_math_bits_deBruijn64tab {H : Type} : DataW H := .agg [.lit (.int .u8 0), .lit (.int .u8 1), .lit (.int .u8 56), .lit (.int .u8 2), .lit (.int .u8 57), .lit (.int .u8 49), .lit (.int .u8 28), .lit (.int .u8 3), .lit (.int .u8 61), .lit (.int .u8 58), .lit (.int .u8 42), .lit (.int .u8 50), .lit (.int .u8 38), .lit (.int .u8 29), .lit (.int .u8 17), .lit (.int .u8 4), .lit (.int .u8 62), .lit (.int .u8 47), .lit (.int .u8 59), .lit (.int .u8 36), .lit (.int .u8 45), .lit (.int .u8 43), .lit (.int .u8 51), .lit (.int .u8 22), .lit (.int .u8 53), .lit (.int .u8 39), .lit (.int .u8 33), .lit (.int .u8 30), .lit (.int .u8 24), .lit (.int .u8 18), .lit (.int .u8 12), .lit (.int .u8 5), .lit (.int .u8 63), .lit (.int .u8 55), .lit (.int .u8 48), .lit (.int .u8 27), .lit (.int .u8 60), .lit (.int .u8 41), .lit (.int .u8 37), .lit (.int .u8 16), .lit (.int .u8 46), .lit (.int .u8 35), .lit (.int .u8 44), .lit (.int .u8 21), .lit (.int .u8 52), .lit (.int .u8 32), .lit (.int .u8 23), .lit (.int .u8 11), .lit (.int .u8 54), .lit (.int .u8 26), .lit (.int .u8 40), .lit (.int .u8 15), .lit (.int .u8 34), .lit (.int .u8 20), .lit (.int .u8 31), .lit (.int .u8 10), .lit (.int .u8 25), .lit (.int .u8 14), .lit (.int .u8 19), .lit (.int .u8 9), .lit (.int .u8 13), .lit (.int .u8 8), .lit (.int .u8 7), .lit (.int .u8 6)]
def laid_internal_strconv_uint64pow10 {H : Type} : DataW H := .agg [.lit (.int .u64 1), .lit (.int .u64 10), .lit (.int .u64 100), .lit (.int .u64 1000), .lit (.int .u64 10000), .lit (.int .u64 100000), .lit (.int .u64 1000000), .lit (.int .u64 10000000), .lit (.int .u64 100000000), .lit (.int .u64 1000000000), .lit (.int .u64 10000000000), .lit (.int .u64 100000000000), .lit (.int .u64 1000000000000), .lit (.int .u64 10000000000000), .lit (.int .u64 100000000000000), .lit (.int .u64 1000000000000000), .lit (.int .u64 10000000000000000), .lit (.int .u64 100000000000000000), .lit (.int .u64 1000000000000000000), .lit (.int .u64 10000000000000000000)]
def laid_unicode_utf8_acceptRanges {H : Type} : DataW H := .agg [.agg [.lit (.int .u8 128), .lit (.int .u8 191)], .agg [.lit (.int .u8 160), .lit (.int .u8 191)], .agg [.lit (.int .u8 128), .lit (.int .u8 159)], .agg [.lit (.int .u8 144), .lit (.int .u8 191)], .agg [.lit (.int .u8 128), .lit (.int .u8 143)], .agg [.lit (.int .u8 0), .lit (.int .u8 0)], .agg [.lit (.int .u8 0), .lit (.int .u8 0)], .agg [.lit (.int .u8 0), .lit (.int .u8 0)], .agg [.lit (.int .u8 0), .lit (.int .u8 0)], .agg [.lit (.int .u8 0), .lit (.int .u8 0)], .agg [.lit (.int .u8 0), .lit (.int .u8 0)], .agg [.lit (.int .u8 0), .lit (.int .u8 0)], .agg [.lit (.int .u8 0), .lit (.int .u8 0)], .agg [.lit (.int .u8 0), .lit (.int .u8 0)], .agg [.lit (.int .u8 0), .lit (.int .u8 0)], .agg [.lit (.int .u8 0), .lit (.int .u8 0)]]
/-- One of Go's own tables, pinned by name: the form's constant. -/
def laid_unicode_utf8_first : DataW Unit := Go.Pinned.utf8First

/-- 'inequalitylaw04.ExprNames': WHATEVER THE INPUT: true; the input reads as it did. -/
def exprNamesSpec : ChangeSpec := { name := "exprNames", fn := fun _ => fun
  | [d] => { results := [.lit (.bool true)], args := [d] }
  | _ => none }
def exprNamesRow : OpenClaim := { program := "ytchcjbbnkcodjaagreatdoor", sum := "a5c107d675996b7f731b94527d148929c09f542c4e16d65901d4292d3b1cfe5a", func := "inequality/inequalitylaw04.ExprNames", spec := "exprNames", inPlace := ["internal/bytealg.IndexByteString", "internal/bytealg.IndexString", "internal/abi.NoEscape"], unfollowed := true, recurses := true, named := ["math/bits.deBruijn32tab", "internal/bytealg.MaxLen", "unicode/utf8.first", "unicode/utf8.acceptRanges", "internal/strconv.uint64pow10", "math/bits.deBruijn64tab"], apart := false, laid := [("math/bits.deBruijn32tab", laid_math_bits_deBruijn32tab), ("math/bits.deBruijn64tab", laid_math_bits_deBruijn64tab), ("internal/strconv.uint64pow10", laid_internal_strconv_uint64pow10), ("unicode/utf8.acceptRanges", laid_unicode_utf8_acceptRanges), ("unicode/utf8.first", laid_unicode_utf8_first)] }
def ExprNamesSaid : Prop := exprNamesRow.holds Tryz.pinned (OpenSpec.ofChange exprNamesSpec)

/-- ITS FALSE NEIGHBOUR: 'it returns false'. Refute it at one input. -/
def exprNamesWrong : ChangeSpec := { name := "exprNames", fn := fun _ => fun
  | [d] => { results := [.lit (.bool false)], args := [d] }
  | _ => none }
def ExprNamesWrongFalsely : Prop := exprNamesRow.holds Tryz.pinned (OpenSpec.ofChange exprNamesWrong)

/-- 'inequalitylaw04.ExprParses': WHATEVER THE INPUT: true; the input reads as it did. -/
def exprParsesSpec : ChangeSpec := { name := "exprParses", fn := fun _ => fun
  | [d] => { results := [.lit (.bool true)], args := [d] }
  | _ => none }
def exprParsesRow : OpenClaim := { program := "ytchcjbbnkcodjaagreatdoor", sum := "a5c107d675996b7f731b94527d148929c09f542c4e16d65901d4292d3b1cfe5a", func := "inequality/inequalitylaw04.ExprParses", spec := "exprParses", inPlace := ["internal/bytealg.IndexByteString", "internal/bytealg.IndexString", "internal/abi.NoEscape"], unfollowed := true, recurses := true, named := ["math/bits.deBruijn32tab", "internal/bytealg.MaxLen", "unicode/utf8.first", "unicode/utf8.acceptRanges", "internal/strconv.uint64pow10", "math/bits.deBruijn64tab"], apart := false, laid := [("math/bits.deBruijn32tab", laid_math_bits_deBruijn32tab), ("math/bits.deBruijn64tab", laid_math_bits_deBruijn64tab), ("internal/strconv.uint64pow10", laid_internal_strconv_uint64pow10), ("unicode/utf8.acceptRanges", laid_unicode_utf8_acceptRanges), ("unicode/utf8.first", laid_unicode_utf8_first)] }
def ExprParsesSaid : Prop := exprParsesRow.holds Tryz.pinned (OpenSpec.ofChange exprParsesSpec)

/-- ITS FALSE NEIGHBOUR: 'it returns false'. Refute it at one input. -/
def exprParsesWrong : ChangeSpec := { name := "exprParses", fn := fun _ => fun
  | [d] => { results := [.lit (.bool false)], args := [d] }
  | _ => none }
def ExprParsesWrongFalsely : Prop := exprParsesRow.holds Tryz.pinned (OpenSpec.ofChange exprParsesWrong)

/-- 'inequalitylaw04.ExprPrints': WHATEVER THE INPUT: true; the input reads as it did. -/
def exprPrintsSpec : ChangeSpec := { name := "exprPrints", fn := fun _ => fun
  | [d] => { results := [.lit (.bool true)], args := [d] }
  | _ => none }
def exprPrintsRow : OpenClaim := { program := "ytchcjbbnkcodjaagreatdoor", sum := "a5c107d675996b7f731b94527d148929c09f542c4e16d65901d4292d3b1cfe5a", func := "inequality/inequalitylaw04.ExprPrints", spec := "exprPrints", inPlace := ["internal/abi.NoEscape", "internal/bytealg.IndexByteString", "internal/bytealg.IndexString"], unfollowed := true, recurses := true, named := ["math/bits.deBruijn32tab", "internal/strconv.uint64pow10", "math/bits.deBruijn64tab", "internal/bytealg.MaxLen", "unicode/utf8.first", "unicode/utf8.acceptRanges"], loops := true, apart := false, laid := [("math/bits.deBruijn32tab", laid_math_bits_deBruijn32tab), ("math/bits.deBruijn64tab", laid_math_bits_deBruijn64tab), ("internal/strconv.uint64pow10", laid_internal_strconv_uint64pow10), ("unicode/utf8.acceptRanges", laid_unicode_utf8_acceptRanges), ("unicode/utf8.first", laid_unicode_utf8_first)] }
def ExprPrintsSaid : Prop := exprPrintsRow.holds Tryz.pinned (OpenSpec.ofChange exprPrintsSpec)

/-- ITS FALSE NEIGHBOUR: 'it returns false'. Refute it at one input. -/
def exprPrintsWrong : ChangeSpec := { name := "exprPrints", fn := fun _ => fun
  | [d] => { results := [.lit (.bool false)], args := [d] }
  | _ => none }
def ExprPrintsWrongFalsely : Prop := exprPrintsRow.holds Tryz.pinned (OpenSpec.ofChange exprPrintsWrong)

/-- 'inequalitylaw04.ExprNormal': WHATEVER THE INPUT: true; the input reads as it did. -/
def exprNormalSpec : ChangeSpec := { name := "exprNormal", fn := fun _ => fun
  | [d] => { results := [.lit (.bool true)], args := [d] }
  | _ => none }
def exprNormalRow : OpenClaim := { program := "ytchcjbbnkcodjaagreatdoor", sum := "a5c107d675996b7f731b94527d148929c09f542c4e16d65901d4292d3b1cfe5a", func := "inequality/inequalitylaw04.ExprNormal", spec := "exprNormal", inPlace := ["internal/bytealg.IndexByteString", "internal/bytealg.IndexString", "internal/abi.NoEscape"], unfollowed := true, recurses := true, named := ["math/bits.deBruijn32tab", "internal/bytealg.MaxLen", "unicode/utf8.first", "unicode/utf8.acceptRanges", "internal/strconv.uint64pow10", "math/bits.deBruijn64tab"], apart := false, laid := [("math/bits.deBruijn32tab", laid_math_bits_deBruijn32tab), ("math/bits.deBruijn64tab", laid_math_bits_deBruijn64tab), ("internal/strconv.uint64pow10", laid_internal_strconv_uint64pow10), ("unicode/utf8.acceptRanges", laid_unicode_utf8_acceptRanges), ("unicode/utf8.first", laid_unicode_utf8_first)] }
def ExprNormalSaid : Prop := exprNormalRow.holds Tryz.pinned (OpenSpec.ofChange exprNormalSpec)

/-- ITS FALSE NEIGHBOUR: 'it returns false'. Refute it at one input. -/
def exprNormalWrong : ChangeSpec := { name := "exprNormal", fn := fun _ => fun
  | [d] => { results := [.lit (.bool false)], args := [d] }
  | _ => none }
def ExprNormalWrongFalsely : Prop := exprNormalRow.holds Tryz.pinned (OpenSpec.ofChange exprNormalWrong)

/-- 'inequalitylaw04.ExprSwap': WHATEVER THE INPUT: true; the input reads as it did. -/
def exprSwapSpec : ChangeSpec := { name := "exprSwap", fn := fun _ => fun
  | [d1, d2, d3] => { results := [.lit (.bool true)], args := [d1, d2, d3] }
  | _ => none }
def exprSwapRow : OpenClaim := { program := "ytchcjbbnkcodjaagreatdoor", sum := "a5c107d675996b7f731b94527d148929c09f542c4e16d65901d4292d3b1cfe5a", func := "inequality/inequalitylaw04.ExprSwap", spec := "exprSwap", inPlace := ["internal/bytealg.IndexByteString", "internal/bytealg.IndexString", "internal/abi.NoEscape"], unfollowed := true, recurses := true, named := ["math/bits.deBruijn32tab", "internal/bytealg.MaxLen", "unicode/utf8.first", "unicode/utf8.acceptRanges", "internal/strconv.uint64pow10", "math/bits.deBruijn64tab"], loops := true, apart := false, laid := [("math/bits.deBruijn32tab", laid_math_bits_deBruijn32tab), ("math/bits.deBruijn64tab", laid_math_bits_deBruijn64tab), ("internal/strconv.uint64pow10", laid_internal_strconv_uint64pow10), ("unicode/utf8.acceptRanges", laid_unicode_utf8_acceptRanges), ("unicode/utf8.first", laid_unicode_utf8_first)] }
def ExprSwapSaid : Prop := exprSwapRow.holds Tryz.pinned (OpenSpec.ofChange exprSwapSpec)

/-- ITS FALSE NEIGHBOUR: 'it returns false'. Refute it at one input. -/
def exprSwapWrong : ChangeSpec := { name := "exprSwap", fn := fun _ => fun
  | [d1, d2, d3] => { results := [.lit (.bool false)], args := [d1, d2, d3] }
  | _ => none }
def ExprSwapWrongFalsely : Prop := exprSwapRow.holds Tryz.pinned (OpenSpec.ofChange exprSwapWrong)

/-- 'inequalitylaw04.ExprSubst': WHATEVER THE INPUT: true; the input reads as it did. -/
def exprSubstSpec : ChangeSpec := { name := "exprSubst", fn := fun _ => fun
  | [d1, d2] => { results := [.lit (.bool true)], args := [d1, d2] }
  | _ => none }
def exprSubstRow : OpenClaim := { program := "ytchcjbbnkcodjaagreatdoor", sum := "a5c107d675996b7f731b94527d148929c09f542c4e16d65901d4292d3b1cfe5a", func := "inequality/inequalitylaw04.ExprSubst", spec := "exprSubst", inPlace := ["internal/bytealg.IndexByteString", "internal/bytealg.IndexString", "internal/abi.NoEscape"], unfollowed := true, recurses := true, named := ["math/bits.deBruijn32tab", "internal/bytealg.MaxLen", "unicode/utf8.first", "unicode/utf8.acceptRanges", "internal/strconv.uint64pow10", "math/bits.deBruijn64tab"], loops := true, apart := false, laid := [("math/bits.deBruijn32tab", laid_math_bits_deBruijn32tab), ("math/bits.deBruijn64tab", laid_math_bits_deBruijn64tab), ("internal/strconv.uint64pow10", laid_internal_strconv_uint64pow10), ("unicode/utf8.acceptRanges", laid_unicode_utf8_acceptRanges), ("unicode/utf8.first", laid_unicode_utf8_first)] }
def ExprSubstSaid : Prop := exprSubstRow.holds Tryz.pinned (OpenSpec.ofChange exprSubstSpec)

/-- ITS FALSE NEIGHBOUR: 'it returns false'. Refute it at one input. -/
def exprSubstWrong : ChangeSpec := { name := "exprSubst", fn := fun _ => fun
  | [d1, d2] => { results := [.lit (.bool false)], args := [d1, d2] }
  | _ => none }
def ExprSubstWrongFalsely : Prop := exprSubstRow.holds Tryz.pinned (OpenSpec.ofChange exprSubstWrong)

/-- 'inequalitylaw04.ExprEqual': WHATEVER THE INPUT: true; the input reads as it did. -/
def exprEqualSpec : ChangeSpec := { name := "exprEqual", fn := fun _ => fun
  | [d1, d2] => { results := [.lit (.bool true)], args := [d1, d2] }
  | _ => none }
def exprEqualRow : OpenClaim := { program := "ytchcjbbnkcodjaagreatdoor", sum := "a5c107d675996b7f731b94527d148929c09f542c4e16d65901d4292d3b1cfe5a", func := "inequality/inequalitylaw04.ExprEqual", spec := "exprEqual", inPlace := ["internal/bytealg.IndexByteString", "internal/bytealg.IndexString", "internal/abi.NoEscape"], unfollowed := true, recurses := true, named := ["math/bits.deBruijn32tab", "internal/bytealg.MaxLen", "unicode/utf8.first", "unicode/utf8.acceptRanges", "internal/strconv.uint64pow10", "math/bits.deBruijn64tab"], loops := true, apart := false, laid := [("math/bits.deBruijn32tab", laid_math_bits_deBruijn32tab), ("math/bits.deBruijn64tab", laid_math_bits_deBruijn64tab), ("internal/strconv.uint64pow10", laid_internal_strconv_uint64pow10), ("unicode/utf8.acceptRanges", laid_unicode_utf8_acceptRanges), ("unicode/utf8.first", laid_unicode_utf8_first)] }
def ExprEqualSaid : Prop := exprEqualRow.holds Tryz.pinned (OpenSpec.ofChange exprEqualSpec)

/-- ITS FALSE NEIGHBOUR: 'it returns false'. Refute it at one input. -/
def exprEqualWrong : ChangeSpec := { name := "exprEqual", fn := fun _ => fun
  | [d1, d2] => { results := [.lit (.bool false)], args := [d1, d2] }
  | _ => none }
def ExprEqualWrongFalsely : Prop := exprEqualRow.holds Tryz.pinned (OpenSpec.ofChange exprEqualWrong)

/-- 'inequalitylaw04.ExprValid': WHATEVER THE INPUT: true; the input reads as it did. -/
def exprValidSpec : ChangeSpec := { name := "exprValid", fn := fun _ => fun
  | [d] => { results := [.lit (.bool true)], args := [d] }
  | _ => none }
def exprValidRow : OpenClaim := { program := "ytchcjbbnkcodjaagreatdoor", sum := "a5c107d675996b7f731b94527d148929c09f542c4e16d65901d4292d3b1cfe5a", func := "inequality/inequalitylaw04.ExprValid", spec := "exprValid", inPlace := ["internal/bytealg.IndexByteString", "internal/bytealg.IndexString", "internal/abi.NoEscape"], unfollowed := true, recurses := true, named := ["math/bits.deBruijn32tab", "internal/bytealg.MaxLen", "unicode/utf8.first", "unicode/utf8.acceptRanges", "internal/strconv.uint64pow10", "math/bits.deBruijn64tab"], loops := true, apart := false, laid := [("math/bits.deBruijn32tab", laid_math_bits_deBruijn32tab), ("math/bits.deBruijn64tab", laid_math_bits_deBruijn64tab), ("internal/strconv.uint64pow10", laid_internal_strconv_uint64pow10), ("unicode/utf8.acceptRanges", laid_unicode_utf8_acceptRanges), ("unicode/utf8.first", laid_unicode_utf8_first)] }
def ExprValidSaid : Prop := exprValidRow.holds Tryz.pinned (OpenSpec.ofChange exprValidSpec)

/-- ITS FALSE NEIGHBOUR: 'it returns false'. Refute it at one input. -/
def exprValidWrong : ChangeSpec := { name := "exprValid", fn := fun _ => fun
  | [d] => { results := [.lit (.bool false)], args := [d] }
  | _ => none }
def ExprValidWrongFalsely : Prop := exprValidRow.holds Tryz.pinned (OpenSpec.ofChange exprValidWrong)

/-- 'inequalitylaw04.ExprBranch': WHATEVER THE INPUT: true; the input reads as it did. -/
def exprBranchSpec : ChangeSpec := { name := "exprBranch", fn := fun _ => fun
  | [d] => { results := [.lit (.bool true)], args := [d] }
  | _ => none }
def exprBranchRow : OpenClaim := { program := "ytchcjbbnkcodjaagreatdoor", sum := "a5c107d675996b7f731b94527d148929c09f542c4e16d65901d4292d3b1cfe5a", func := "inequality/inequalitylaw04.ExprBranch", spec := "exprBranch", inPlace := ["internal/bytealg.IndexByteString", "internal/bytealg.IndexString", "internal/abi.NoEscape"], unfollowed := true, recurses := true, named := ["math/bits.deBruijn32tab", "internal/bytealg.MaxLen", "unicode/utf8.first", "unicode/utf8.acceptRanges", "internal/strconv.uint64pow10", "math/bits.deBruijn64tab"], loops := true, apart := false, laid := [("math/bits.deBruijn32tab", laid_math_bits_deBruijn32tab), ("math/bits.deBruijn64tab", laid_math_bits_deBruijn64tab), ("internal/strconv.uint64pow10", laid_internal_strconv_uint64pow10), ("unicode/utf8.acceptRanges", laid_unicode_utf8_acceptRanges), ("unicode/utf8.first", laid_unicode_utf8_first)] }
def ExprBranchSaid : Prop := exprBranchRow.holds Tryz.pinned (OpenSpec.ofChange exprBranchSpec)

/-- ITS FALSE NEIGHBOUR: 'it returns false'. Refute it at one input. -/
def exprBranchWrong : ChangeSpec := { name := "exprBranch", fn := fun _ => fun
  | [d] => { results := [.lit (.bool false)], args := [d] }
  | _ => none }
def ExprBranchWrongFalsely : Prop := exprBranchRow.holds Tryz.pinned (OpenSpec.ofChange exprBranchWrong)

/-- 'inequalitylaw04.ExprBranchEnds': WHATEVER THE INPUT: true; the input reads as it did. -/
def exprBranchEndsSpec : ChangeSpec := { name := "exprBranchEnds", fn := fun _ => fun
  | [d] => { results := [.lit (.bool true)], args := [d] }
  | _ => none }
def exprBranchEndsRow : OpenClaim := { program := "ytchcjbbnkcodjaagreatdoor", sum := "a5c107d675996b7f731b94527d148929c09f542c4e16d65901d4292d3b1cfe5a", func := "inequality/inequalitylaw04.ExprBranchEnds", spec := "exprBranchEnds", inPlace := ["internal/bytealg.IndexByteString", "internal/bytealg.IndexString", "internal/abi.NoEscape"], unfollowed := true, recurses := true, named := ["math/bits.deBruijn32tab", "internal/bytealg.MaxLen", "unicode/utf8.first", "unicode/utf8.acceptRanges", "internal/strconv.uint64pow10", "math/bits.deBruijn64tab"], loops := true, apart := false, laid := [("math/bits.deBruijn32tab", laid_math_bits_deBruijn32tab), ("math/bits.deBruijn64tab", laid_math_bits_deBruijn64tab), ("internal/strconv.uint64pow10", laid_internal_strconv_uint64pow10), ("unicode/utf8.acceptRanges", laid_unicode_utf8_acceptRanges), ("unicode/utf8.first", laid_unicode_utf8_first)] }
def ExprBranchEndsSaid : Prop := exprBranchEndsRow.holds Tryz.pinned (OpenSpec.ofChange exprBranchEndsSpec)

/-- ITS FALSE NEIGHBOUR: 'it returns false'. Refute it at one input. -/
def exprBranchEndsWrong : ChangeSpec := { name := "exprBranchEnds", fn := fun _ => fun
  | [d] => { results := [.lit (.bool false)], args := [d] }
  | _ => none }
def ExprBranchEndsWrongFalsely : Prop := exprBranchEndsRow.holds Tryz.pinned (OpenSpec.ofChange exprBranchEndsWrong)

/-- 'inequalitylaw04.ExprPeriodic': WHATEVER THE INPUT: true; the input reads as it did. -/
def exprPeriodicSpec : ChangeSpec := { name := "exprPeriodic", fn := fun _ => fun
  | [d1, d2] => { results := [.lit (.bool true)], args := [d1, d2] }
  | _ => none }
def exprPeriodicRow : OpenClaim := { program := "ytchcjbbnkcodjaagreatdoor", sum := "a5c107d675996b7f731b94527d148929c09f542c4e16d65901d4292d3b1cfe5a", func := "inequality/inequalitylaw04.ExprPeriodic", spec := "exprPeriodic", inPlace := ["internal/bytealg.IndexByteString", "internal/bytealg.IndexString", "internal/abi.NoEscape"], unfollowed := true, recurses := true, named := ["math/bits.deBruijn32tab", "internal/bytealg.MaxLen", "unicode/utf8.first", "unicode/utf8.acceptRanges", "internal/strconv.uint64pow10", "math/bits.deBruijn64tab"], loops := true, apart := false, laid := [("math/bits.deBruijn32tab", laid_math_bits_deBruijn32tab), ("math/bits.deBruijn64tab", laid_math_bits_deBruijn64tab), ("internal/strconv.uint64pow10", laid_internal_strconv_uint64pow10), ("unicode/utf8.acceptRanges", laid_unicode_utf8_acceptRanges), ("unicode/utf8.first", laid_unicode_utf8_first)] }
def ExprPeriodicSaid : Prop := exprPeriodicRow.holds Tryz.pinned (OpenSpec.ofChange exprPeriodicSpec)

/-- ITS FALSE NEIGHBOUR: 'it returns false'. Refute it at one input. -/
def exprPeriodicWrong : ChangeSpec := { name := "exprPeriodic", fn := fun _ => fun
  | [d1, d2] => { results := [.lit (.bool false)], args := [d1, d2] }
  | _ => none }
def ExprPeriodicWrongFalsely : Prop := exprPeriodicRow.holds Tryz.pinned (OpenSpec.ofChange exprPeriodicWrong)

/-- 'inequalitylaw04.ExprPeriodicParts': WHATEVER THE INPUT: true; the input reads as it did. -/
def exprPeriodicPartsSpec : ChangeSpec := { name := "exprPeriodicParts", fn := fun _ => fun
  | [d1, d2, d3] => { results := [.lit (.bool true)], args := [d1, d2, d3] }
  | _ => none }
def exprPeriodicPartsRow : OpenClaim := { program := "ytchcjbbnkcodjaagreatdoor", sum := "a5c107d675996b7f731b94527d148929c09f542c4e16d65901d4292d3b1cfe5a", func := "inequality/inequalitylaw04.ExprPeriodicParts", spec := "exprPeriodicParts", inPlace := ["internal/bytealg.IndexByteString", "internal/bytealg.IndexString", "internal/abi.NoEscape"], unfollowed := true, recurses := true, named := ["math/bits.deBruijn32tab", "internal/bytealg.MaxLen", "unicode/utf8.first", "unicode/utf8.acceptRanges", "internal/strconv.uint64pow10", "math/bits.deBruijn64tab"], loops := true, apart := false, laid := [("math/bits.deBruijn32tab", laid_math_bits_deBruijn32tab), ("math/bits.deBruijn64tab", laid_math_bits_deBruijn64tab), ("internal/strconv.uint64pow10", laid_internal_strconv_uint64pow10), ("unicode/utf8.acceptRanges", laid_unicode_utf8_acceptRanges), ("unicode/utf8.first", laid_unicode_utf8_first)] }
def ExprPeriodicPartsSaid : Prop := exprPeriodicPartsRow.holds Tryz.pinned (OpenSpec.ofChange exprPeriodicPartsSpec)

/-- ITS FALSE NEIGHBOUR: 'it returns false'. Refute it at one input. -/
def exprPeriodicPartsWrong : ChangeSpec := { name := "exprPeriodicParts", fn := fun _ => fun
  | [d1, d2, d3] => { results := [.lit (.bool false)], args := [d1, d2, d3] }
  | _ => none }
def ExprPeriodicPartsWrongFalsely : Prop := exprPeriodicPartsRow.holds Tryz.pinned (OpenSpec.ofChange exprPeriodicPartsWrong)

/- THE SECOND FORM. 'bulk': how many values and letters a reading holds, each counted each time it is reached (what is shared counts as often as it is met; a slice's spare places count too). A statement '..UptoSaid' is the law's where the arguments, and the package variables that the reading takes, are together of bulk at most 1048576: NARROWER than '..Said'. Prove '..Said' where nothing that the law and all that it calls make is longer than what came in: it says more and counts as full. Else prove '..UptoSaid'. A law counts once. -/
mutual
def uptoBulk {H : Type} : DataW H → Nat
  | .lit (.string bytes) => bytes.length + 1
  | .lit _ => 1
  | .nil => 1
  | .ptr d => uptoBulk d + 1
  | .slice elems spare => uptoBulkAll elems + uptoBulkAll spare + 1
  | .agg parts => uptoBulkAll parts + 1
  | .iface _ d => uptoBulk d + 1
  | .map entries => uptoBulkEntries entries + 1
  | .held _ => 1
def uptoBulkAll {H : Type} : List (DataW H) → Nat
  | [] => 0
  | d :: r => uptoBulk d + uptoBulkAll r
def uptoBulkEntries {H : Type} : List (Lit × DataW H) → Nat
  | [] => 0
  | x :: r => uptoBulkEntry x + uptoBulkEntries r
def uptoBulkEntry {H : Type} : Lit × DataW H → Nat
  | (.string bytes, d) => bytes.length + uptoBulk d + 1
  | (_, d) => uptoBulk d + 1
 end
def uptoSmall : (H : Type) → List (DataW H) → Bool := fun _ ds => decide (uptoBulkAll ds ≤ 1048576)
def OpenSpec.upto (s : _root_.Go.ChangeSpec) : _root_.Go.OpenSpec := { _root_.Go.OpenSpec.ofChange s with cond := some uptoSmall }

/-- 'inequalitylaw04.ExprNames', WHERE WHAT IT READS IS OF BULK AT MOST 1048576: true; the input reads as it did. -/
def exprNamesUptoRow : OpenClaim := { program := "ytchcjbbnkcodjaagreatdoor", sum := "a5c107d675996b7f731b94527d148929c09f542c4e16d65901d4292d3b1cfe5a", func := "inequality/inequalitylaw04.ExprNames", spec := "exprNames", inPlace := ["internal/bytealg.IndexByteString", "internal/bytealg.IndexString", "internal/abi.NoEscape"], unfollowed := true, recurses := true, named := ["math/bits.deBruijn32tab", "internal/bytealg.MaxLen", "unicode/utf8.first", "unicode/utf8.acceptRanges", "internal/strconv.uint64pow10", "math/bits.deBruijn64tab"], apart := false, laid := [("math/bits.deBruijn32tab", laid_math_bits_deBruijn32tab), ("math/bits.deBruijn64tab", laid_math_bits_deBruijn64tab), ("internal/strconv.uint64pow10", laid_internal_strconv_uint64pow10), ("unicode/utf8.acceptRanges", laid_unicode_utf8_acceptRanges), ("unicode/utf8.first", laid_unicode_utf8_first)], narrowed := true }
def ExprNamesUptoSaid : Prop := exprNamesUptoRow.holds Tryz.pinned (OpenSpec.upto exprNamesSpec)

/-- 'inequalitylaw04.ExprParses', WHERE WHAT IT READS IS OF BULK AT MOST 1048576: true; the input reads as it did. -/
def exprParsesUptoRow : OpenClaim := { program := "ytchcjbbnkcodjaagreatdoor", sum := "a5c107d675996b7f731b94527d148929c09f542c4e16d65901d4292d3b1cfe5a", func := "inequality/inequalitylaw04.ExprParses", spec := "exprParses", inPlace := ["internal/bytealg.IndexByteString", "internal/bytealg.IndexString", "internal/abi.NoEscape"], unfollowed := true, recurses := true, named := ["math/bits.deBruijn32tab", "internal/bytealg.MaxLen", "unicode/utf8.first", "unicode/utf8.acceptRanges", "internal/strconv.uint64pow10", "math/bits.deBruijn64tab"], apart := false, laid := [("math/bits.deBruijn32tab", laid_math_bits_deBruijn32tab), ("math/bits.deBruijn64tab", laid_math_bits_deBruijn64tab), ("internal/strconv.uint64pow10", laid_internal_strconv_uint64pow10), ("unicode/utf8.acceptRanges", laid_unicode_utf8_acceptRanges), ("unicode/utf8.first", laid_unicode_utf8_first)], narrowed := true }
def ExprParsesUptoSaid : Prop := exprParsesUptoRow.holds Tryz.pinned (OpenSpec.upto exprParsesSpec)

/-- 'inequalitylaw04.ExprPrints', WHERE WHAT IT READS IS OF BULK AT MOST 1048576: true; the input reads as it did. -/
def exprPrintsUptoRow : OpenClaim := { program := "ytchcjbbnkcodjaagreatdoor", sum := "a5c107d675996b7f731b94527d148929c09f542c4e16d65901d4292d3b1cfe5a", func := "inequality/inequalitylaw04.ExprPrints", spec := "exprPrints", inPlace := ["internal/abi.NoEscape", "internal/bytealg.IndexByteString", "internal/bytealg.IndexString"], unfollowed := true, recurses := true, named := ["math/bits.deBruijn32tab", "internal/strconv.uint64pow10", "math/bits.deBruijn64tab", "internal/bytealg.MaxLen", "unicode/utf8.first", "unicode/utf8.acceptRanges"], loops := true, apart := false, laid := [("math/bits.deBruijn32tab", laid_math_bits_deBruijn32tab), ("math/bits.deBruijn64tab", laid_math_bits_deBruijn64tab), ("internal/strconv.uint64pow10", laid_internal_strconv_uint64pow10), ("unicode/utf8.acceptRanges", laid_unicode_utf8_acceptRanges), ("unicode/utf8.first", laid_unicode_utf8_first)], narrowed := true }
def ExprPrintsUptoSaid : Prop := exprPrintsUptoRow.holds Tryz.pinned (OpenSpec.upto exprPrintsSpec)

/-- 'inequalitylaw04.ExprNormal', WHERE WHAT IT READS IS OF BULK AT MOST 1048576: true; the input reads as it did. -/
def exprNormalUptoRow : OpenClaim := { program := "ytchcjbbnkcodjaagreatdoor", sum := "a5c107d675996b7f731b94527d148929c09f542c4e16d65901d4292d3b1cfe5a", func := "inequality/inequalitylaw04.ExprNormal", spec := "exprNormal", inPlace := ["internal/bytealg.IndexByteString", "internal/bytealg.IndexString", "internal/abi.NoEscape"], unfollowed := true, recurses := true, named := ["math/bits.deBruijn32tab", "internal/bytealg.MaxLen", "unicode/utf8.first", "unicode/utf8.acceptRanges", "internal/strconv.uint64pow10", "math/bits.deBruijn64tab"], apart := false, laid := [("math/bits.deBruijn32tab", laid_math_bits_deBruijn32tab), ("math/bits.deBruijn64tab", laid_math_bits_deBruijn64tab), ("internal/strconv.uint64pow10", laid_internal_strconv_uint64pow10), ("unicode/utf8.acceptRanges", laid_unicode_utf8_acceptRanges), ("unicode/utf8.first", laid_unicode_utf8_first)], narrowed := true }
def ExprNormalUptoSaid : Prop := exprNormalUptoRow.holds Tryz.pinned (OpenSpec.upto exprNormalSpec)

/-- 'inequalitylaw04.ExprSwap', WHERE WHAT IT READS IS OF BULK AT MOST 1048576: true; the input reads as it did. -/
def exprSwapUptoRow : OpenClaim := { program := "ytchcjbbnkcodjaagreatdoor", sum := "a5c107d675996b7f731b94527d148929c09f542c4e16d65901d4292d3b1cfe5a", func := "inequality/inequalitylaw04.ExprSwap", spec := "exprSwap", inPlace := ["internal/bytealg.IndexByteString", "internal/bytealg.IndexString", "internal/abi.NoEscape"], unfollowed := true, recurses := true, named := ["math/bits.deBruijn32tab", "internal/bytealg.MaxLen", "unicode/utf8.first", "unicode/utf8.acceptRanges", "internal/strconv.uint64pow10", "math/bits.deBruijn64tab"], loops := true, apart := false, laid := [("math/bits.deBruijn32tab", laid_math_bits_deBruijn32tab), ("math/bits.deBruijn64tab", laid_math_bits_deBruijn64tab), ("internal/strconv.uint64pow10", laid_internal_strconv_uint64pow10), ("unicode/utf8.acceptRanges", laid_unicode_utf8_acceptRanges), ("unicode/utf8.first", laid_unicode_utf8_first)], narrowed := true }
def ExprSwapUptoSaid : Prop := exprSwapUptoRow.holds Tryz.pinned (OpenSpec.upto exprSwapSpec)

/-- 'inequalitylaw04.ExprSubst', WHERE WHAT IT READS IS OF BULK AT MOST 1048576: true; the input reads as it did. -/
def exprSubstUptoRow : OpenClaim := { program := "ytchcjbbnkcodjaagreatdoor", sum := "a5c107d675996b7f731b94527d148929c09f542c4e16d65901d4292d3b1cfe5a", func := "inequality/inequalitylaw04.ExprSubst", spec := "exprSubst", inPlace := ["internal/bytealg.IndexByteString", "internal/bytealg.IndexString", "internal/abi.NoEscape"], unfollowed := true, recurses := true, named := ["math/bits.deBruijn32tab", "internal/bytealg.MaxLen", "unicode/utf8.first", "unicode/utf8.acceptRanges", "internal/strconv.uint64pow10", "math/bits.deBruijn64tab"], loops := true, apart := false, laid := [("math/bits.deBruijn32tab", laid_math_bits_deBruijn32tab), ("math/bits.deBruijn64tab", laid_math_bits_deBruijn64tab), ("internal/strconv.uint64pow10", laid_internal_strconv_uint64pow10), ("unicode/utf8.acceptRanges", laid_unicode_utf8_acceptRanges), ("unicode/utf8.first", laid_unicode_utf8_first)], narrowed := true }
def ExprSubstUptoSaid : Prop := exprSubstUptoRow.holds Tryz.pinned (OpenSpec.upto exprSubstSpec)

/-- 'inequalitylaw04.ExprEqual', WHERE WHAT IT READS IS OF BULK AT MOST 1048576: true; the input reads as it did. -/
def exprEqualUptoRow : OpenClaim := { program := "ytchcjbbnkcodjaagreatdoor", sum := "a5c107d675996b7f731b94527d148929c09f542c4e16d65901d4292d3b1cfe5a", func := "inequality/inequalitylaw04.ExprEqual", spec := "exprEqual", inPlace := ["internal/bytealg.IndexByteString", "internal/bytealg.IndexString", "internal/abi.NoEscape"], unfollowed := true, recurses := true, named := ["math/bits.deBruijn32tab", "internal/bytealg.MaxLen", "unicode/utf8.first", "unicode/utf8.acceptRanges", "internal/strconv.uint64pow10", "math/bits.deBruijn64tab"], loops := true, apart := false, laid := [("math/bits.deBruijn32tab", laid_math_bits_deBruijn32tab), ("math/bits.deBruijn64tab", laid_math_bits_deBruijn64tab), ("internal/strconv.uint64pow10", laid_internal_strconv_uint64pow10), ("unicode/utf8.acceptRanges", laid_unicode_utf8_acceptRanges), ("unicode/utf8.first", laid_unicode_utf8_first)], narrowed := true }
def ExprEqualUptoSaid : Prop := exprEqualUptoRow.holds Tryz.pinned (OpenSpec.upto exprEqualSpec)

/-- 'inequalitylaw04.ExprValid', WHERE WHAT IT READS IS OF BULK AT MOST 1048576: true; the input reads as it did. -/
def exprValidUptoRow : OpenClaim := { program := "ytchcjbbnkcodjaagreatdoor", sum := "a5c107d675996b7f731b94527d148929c09f542c4e16d65901d4292d3b1cfe5a", func := "inequality/inequalitylaw04.ExprValid", spec := "exprValid", inPlace := ["internal/bytealg.IndexByteString", "internal/bytealg.IndexString", "internal/abi.NoEscape"], unfollowed := true, recurses := true, named := ["math/bits.deBruijn32tab", "internal/bytealg.MaxLen", "unicode/utf8.first", "unicode/utf8.acceptRanges", "internal/strconv.uint64pow10", "math/bits.deBruijn64tab"], loops := true, apart := false, laid := [("math/bits.deBruijn32tab", laid_math_bits_deBruijn32tab), ("math/bits.deBruijn64tab", laid_math_bits_deBruijn64tab), ("internal/strconv.uint64pow10", laid_internal_strconv_uint64pow10), ("unicode/utf8.acceptRanges", laid_unicode_utf8_acceptRanges), ("unicode/utf8.first", laid_unicode_utf8_first)], narrowed := true }
def ExprValidUptoSaid : Prop := exprValidUptoRow.holds Tryz.pinned (OpenSpec.upto exprValidSpec)

/-- 'inequalitylaw04.ExprBranch', WHERE WHAT IT READS IS OF BULK AT MOST 1048576: true; the input reads as it did. -/
def exprBranchUptoRow : OpenClaim := { program := "ytchcjbbnkcodjaagreatdoor", sum := "a5c107d675996b7f731b94527d148929c09f542c4e16d65901d4292d3b1cfe5a", func := "inequality/inequalitylaw04.ExprBranch", spec := "exprBranch", inPlace := ["internal/bytealg.IndexByteString", "internal/bytealg.IndexString", "internal/abi.NoEscape"], unfollowed := true, recurses := true, named := ["math/bits.deBruijn32tab", "internal/bytealg.MaxLen", "unicode/utf8.first", "unicode/utf8.acceptRanges", "internal/strconv.uint64pow10", "math/bits.deBruijn64tab"], loops := true, apart := false, laid := [("math/bits.deBruijn32tab", laid_math_bits_deBruijn32tab), ("math/bits.deBruijn64tab", laid_math_bits_deBruijn64tab), ("internal/strconv.uint64pow10", laid_internal_strconv_uint64pow10), ("unicode/utf8.acceptRanges", laid_unicode_utf8_acceptRanges), ("unicode/utf8.first", laid_unicode_utf8_first)], narrowed := true }
def ExprBranchUptoSaid : Prop := exprBranchUptoRow.holds Tryz.pinned (OpenSpec.upto exprBranchSpec)

/-- 'inequalitylaw04.ExprBranchEnds', WHERE WHAT IT READS IS OF BULK AT MOST 1048576: true; the input reads as it did. -/
def exprBranchEndsUptoRow : OpenClaim := { program := "ytchcjbbnkcodjaagreatdoor", sum := "a5c107d675996b7f731b94527d148929c09f542c4e16d65901d4292d3b1cfe5a", func := "inequality/inequalitylaw04.ExprBranchEnds", spec := "exprBranchEnds", inPlace := ["internal/bytealg.IndexByteString", "internal/bytealg.IndexString", "internal/abi.NoEscape"], unfollowed := true, recurses := true, named := ["math/bits.deBruijn32tab", "internal/bytealg.MaxLen", "unicode/utf8.first", "unicode/utf8.acceptRanges", "internal/strconv.uint64pow10", "math/bits.deBruijn64tab"], loops := true, apart := false, laid := [("math/bits.deBruijn32tab", laid_math_bits_deBruijn32tab), ("math/bits.deBruijn64tab", laid_math_bits_deBruijn64tab), ("internal/strconv.uint64pow10", laid_internal_strconv_uint64pow10), ("unicode/utf8.acceptRanges", laid_unicode_utf8_acceptRanges), ("unicode/utf8.first", laid_unicode_utf8_first)], narrowed := true }
def ExprBranchEndsUptoSaid : Prop := exprBranchEndsUptoRow.holds Tryz.pinned (OpenSpec.upto exprBranchEndsSpec)

/-- 'inequalitylaw04.ExprPeriodic', WHERE WHAT IT READS IS OF BULK AT MOST 1048576: true; the input reads as it did. -/
def exprPeriodicUptoRow : OpenClaim := { program := "ytchcjbbnkcodjaagreatdoor", sum := "a5c107d675996b7f731b94527d148929c09f542c4e16d65901d4292d3b1cfe5a", func := "inequality/inequalitylaw04.ExprPeriodic", spec := "exprPeriodic", inPlace := ["internal/bytealg.IndexByteString", "internal/bytealg.IndexString", "internal/abi.NoEscape"], unfollowed := true, recurses := true, named := ["math/bits.deBruijn32tab", "internal/bytealg.MaxLen", "unicode/utf8.first", "unicode/utf8.acceptRanges", "internal/strconv.uint64pow10", "math/bits.deBruijn64tab"], loops := true, apart := false, laid := [("math/bits.deBruijn32tab", laid_math_bits_deBruijn32tab), ("math/bits.deBruijn64tab", laid_math_bits_deBruijn64tab), ("internal/strconv.uint64pow10", laid_internal_strconv_uint64pow10), ("unicode/utf8.acceptRanges", laid_unicode_utf8_acceptRanges), ("unicode/utf8.first", laid_unicode_utf8_first)], narrowed := true }
def ExprPeriodicUptoSaid : Prop := exprPeriodicUptoRow.holds Tryz.pinned (OpenSpec.upto exprPeriodicSpec)

/-- 'inequalitylaw04.ExprPeriodicParts', WHERE WHAT IT READS IS OF BULK AT MOST 1048576: true; the input reads as it did. -/
def exprPeriodicPartsUptoRow : OpenClaim := { program := "ytchcjbbnkcodjaagreatdoor", sum := "a5c107d675996b7f731b94527d148929c09f542c4e16d65901d4292d3b1cfe5a", func := "inequality/inequalitylaw04.ExprPeriodicParts", spec := "exprPeriodicParts", inPlace := ["internal/bytealg.IndexByteString", "internal/bytealg.IndexString", "internal/abi.NoEscape"], unfollowed := true, recurses := true, named := ["math/bits.deBruijn32tab", "internal/bytealg.MaxLen", "unicode/utf8.first", "unicode/utf8.acceptRanges", "internal/strconv.uint64pow10", "math/bits.deBruijn64tab"], loops := true, apart := false, laid := [("math/bits.deBruijn32tab", laid_math_bits_deBruijn32tab), ("math/bits.deBruijn64tab", laid_math_bits_deBruijn64tab), ("internal/strconv.uint64pow10", laid_internal_strconv_uint64pow10), ("unicode/utf8.acceptRanges", laid_unicode_utf8_acceptRanges), ("unicode/utf8.first", laid_unicode_utf8_first)], narrowed := true }
def ExprPeriodicPartsUptoSaid : Prop := exprPeriodicPartsUptoRow.holds Tryz.pinned (OpenSpec.upto exprPeriodicPartsSpec)

end Rows
end Go.Proofs.YtchcjbbnkcodjaaGreatDoor

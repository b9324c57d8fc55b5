/-
  NARROWER THAN 'FOR EVERY INPUT', by the rows' own cells (each row's printed sentence says how): NumberMiddles: laid · NumberAdds: laid · NumberBits: laid · NumberCanons: laid · NumberInts: laid · NumberMuls: laid · NumberFloors: laid · NumberGrids: laid · NumberField: laid · NumberCompares: laid · NumberPows: laid · NumberFormats: laid.
  DERIVED. THE GIVEN ROWS OF THIS SEAT. 12 by the template 'for every input the law returns true; each argument reads behind the call as it read before'; 0 by the template 'total and deterministic' (their statements: YthgggofobbokeaaDoorTotals.lean).
  GIVEN WITH THE SEED: the statements are not yours to turn. If you find one false, say at which input.
  Laid BY PROGRAM, IN A SANDBOX (cutbox-rows.mjs): the forced cells as the released guide's own fill.sh prints them over the translation 5de2f5599e827bc4… (all of the seat's roots in one cut). By AI agents, Wed Nov 11 2026. No macro, syntax, notation, axiom, sorry.
-/
import Derived.Test.YthgggofobbokeaaDoorChecked
import GoSem.Claim
import GoSem.ClaimJoined
import GoSem.ClaimMapViews
import Derived.JoinedTies
import Derived.KernelRfl
namespace Go.Proofs.YthgggofobbokeaaDoor
/- THE CELL 'sum', in the pinned program and in every row, IS THE sha256 OF THE DUMP (.gsa) THAT YthgggofobbokeaaDoorProg.lean LOADS. Nothing in Lean hashes anything: it is a label: what it is worth is what the hold of that sum in a sandbox is worth. -/
noncomputable def Tryd.pinned : Pinned := { name := "ythgggofobbokeaadoor", sum := "5de2f5599e827bc4d34b3233e1d9a97d6298885e6bfc49d90428d6d595cf8710", checked := Tryd.checked }
namespace Rows
def none {H : Type} : Left H := { results := [], args := [] }

/- WHAT THE LISTED PACKAGE-LEVEL VARIABLES READ AS WHEN THE CALL BEGINS. Each datum BY PROGRAM (the guide's laid-datum.mjs) off the statement by which the dump's own 'gosem.cut.vars' lays the variable. In a bare row this is a premise. The card (YthgggofobbokeaaDoorCards.lean) ties it to the program's text. -/
def laid_math_bits_deBruijn32tab {H : Type} : DataW H := .agg [.lit (.int .u8 0), .lit (.int .u8 1), .lit (.int .u8 28), .lit (.int .u8 2), .lit (.int .u8 29), .lit (.int .u8 14), .lit (.int .u8 24), .lit (.int .u8 3), .lit (.int .u8 30), .lit (.int .u8 22), .lit (.int .u8 20), .lit (.int .u8 15), .lit (.int .u8 25), .lit (.int .u8 17), .lit (.int .u8 4), .lit (.int .u8 8), .lit (.int .u8 31), .lit (.int .u8 27), .lit (.int .u8 13), .lit (.int .u8 23), .lit (.int .u8 21), .lit (.int .u8 19), .lit (.int .u8 16), .lit (.int .u8 7), .lit (.int .u8 26), .lit (.int .u8 12), .lit (.int .u8 18), .lit (.int .u8 6), .lit (.int .u8 11), .lit (.int .u8 5), .lit (.int .u8 10), .lit (.int .u8 9)]

/-- 'inequalitylaw01.NumberMiddles': WHATEVER THE INPUT: true; the input reads as it did. -/
def numberMiddlesSpec : ChangeSpec := { name := "numberMiddles", fn := fun _ => fun
  | [d1, d2] => { results := [.lit (.bool true)], args := [d1, d2] }
  | _ => none }
def numberMiddlesRow : OpenClaim := { program := "ythgggofobbokeaadoor", sum := "5de2f5599e827bc4d34b3233e1d9a97d6298885e6bfc49d90428d6d595cf8710", func := "inequality/inequalitylaw01.NumberMiddles", spec := "numberMiddles", unfollowed := true, recurses := true, named := ["math/bits.deBruijn32tab"], apart := false, laid := [("math/bits.deBruijn32tab", laid_math_bits_deBruijn32tab)] }
def NumberMiddlesSaid : Prop := numberMiddlesRow.holds Tryd.pinned (OpenSpec.ofChange numberMiddlesSpec)

/-- ITS FALSE NEIGHBOUR: 'it returns false'. Refute it at one input. -/
def numberMiddlesWrong : ChangeSpec := { name := "numberMiddles", fn := fun _ => fun
  | [d1, d2] => { results := [.lit (.bool false)], args := [d1, d2] }
  | _ => none }
def NumberMiddlesWrongFalsely : Prop := numberMiddlesRow.holds Tryd.pinned (OpenSpec.ofChange numberMiddlesWrong)

/-- 'inequalitylaw01.NumberAdds': WHATEVER THE INPUT: true; the input reads as it did. -/
def numberAddsSpec : ChangeSpec := { name := "numberAdds", fn := fun _ => fun
  | [d1, d2] => { results := [.lit (.bool true)], args := [d1, d2] }
  | _ => none }
def numberAddsRow : OpenClaim := { program := "ythgggofobbokeaadoor", sum := "5de2f5599e827bc4d34b3233e1d9a97d6298885e6bfc49d90428d6d595cf8710", func := "inequality/inequalitylaw01.NumberAdds", spec := "numberAdds", unfollowed := true, recurses := true, named := ["math/bits.deBruijn32tab"], apart := false, laid := [("math/bits.deBruijn32tab", laid_math_bits_deBruijn32tab)] }
def NumberAddsSaid : Prop := numberAddsRow.holds Tryd.pinned (OpenSpec.ofChange numberAddsSpec)

/-- ITS FALSE NEIGHBOUR: 'it returns false'. Refute it at one input. -/
def numberAddsWrong : ChangeSpec := { name := "numberAdds", fn := fun _ => fun
  | [d1, d2] => { results := [.lit (.bool false)], args := [d1, d2] }
  | _ => none }
def NumberAddsWrongFalsely : Prop := numberAddsRow.holds Tryd.pinned (OpenSpec.ofChange numberAddsWrong)

/-- 'inequalitylaw01.NumberBits': WHATEVER THE INPUT: true; the input reads as it did. -/
def numberBitsSpec : ChangeSpec := { name := "numberBits", fn := fun _ => fun
  | [d] => { results := [.lit (.bool true)], args := [d] }
  | _ => none }
def numberBitsRow : OpenClaim := { program := "ythgggofobbokeaadoor", sum := "5de2f5599e827bc4d34b3233e1d9a97d6298885e6bfc49d90428d6d595cf8710", func := "inequality/inequalitylaw01.NumberBits", spec := "numberBits", unfollowed := true, recurses := true, named := ["math/bits.deBruijn32tab"], apart := false, laid := [("math/bits.deBruijn32tab", laid_math_bits_deBruijn32tab)] }
def NumberBitsSaid : Prop := numberBitsRow.holds Tryd.pinned (OpenSpec.ofChange numberBitsSpec)

/-- ITS FALSE NEIGHBOUR: 'it returns false'. Refute it at one input. -/
def numberBitsWrong : ChangeSpec := { name := "numberBits", fn := fun _ => fun
  | [d] => { results := [.lit (.bool false)], args := [d] }
  | _ => none }
def NumberBitsWrongFalsely : Prop := numberBitsRow.holds Tryd.pinned (OpenSpec.ofChange numberBitsWrong)

/-- 'inequalitylaw01.NumberCanons': WHATEVER THE INPUT: true; the input reads as it did. -/
def numberCanonsSpec : ChangeSpec := { name := "numberCanons", fn := fun _ => fun
  | [d] => { results := [.lit (.bool true)], args := [d] }
  | _ => none }
def numberCanonsRow : OpenClaim := { program := "ythgggofobbokeaadoor", sum := "5de2f5599e827bc4d34b3233e1d9a97d6298885e6bfc49d90428d6d595cf8710", func := "inequality/inequalitylaw01.NumberCanons", spec := "numberCanons", unfollowed := true, recurses := true, named := ["math/bits.deBruijn32tab"], apart := false, laid := [("math/bits.deBruijn32tab", laid_math_bits_deBruijn32tab)] }
def NumberCanonsSaid : Prop := numberCanonsRow.holds Tryd.pinned (OpenSpec.ofChange numberCanonsSpec)

/-- ITS FALSE NEIGHBOUR: 'it returns false'. Refute it at one input. -/
def numberCanonsWrong : ChangeSpec := { name := "numberCanons", fn := fun _ => fun
  | [d] => { results := [.lit (.bool false)], args := [d] }
  | _ => none }
def NumberCanonsWrongFalsely : Prop := numberCanonsRow.holds Tryd.pinned (OpenSpec.ofChange numberCanonsWrong)

/-- 'inequalitylaw01.NumberInts': WHATEVER THE INPUT: true; the input reads as it did. -/
def numberIntsSpec : ChangeSpec := { name := "numberInts", fn := fun _ => fun
  | [d] => { results := [.lit (.bool true)], args := [d] }
  | _ => none }
def numberIntsRow : OpenClaim := { program := "ythgggofobbokeaadoor", sum := "5de2f5599e827bc4d34b3233e1d9a97d6298885e6bfc49d90428d6d595cf8710", func := "inequality/inequalitylaw01.NumberInts", spec := "numberInts", unfollowed := true, recurses := true, named := ["math/bits.deBruijn32tab"], apart := false, laid := [("math/bits.deBruijn32tab", laid_math_bits_deBruijn32tab)] }
def NumberIntsSaid : Prop := numberIntsRow.holds Tryd.pinned (OpenSpec.ofChange numberIntsSpec)

/-- ITS FALSE NEIGHBOUR: 'it returns false'. Refute it at one input. -/
def numberIntsWrong : ChangeSpec := { name := "numberInts", fn := fun _ => fun
  | [d] => { results := [.lit (.bool false)], args := [d] }
  | _ => none }
def NumberIntsWrongFalsely : Prop := numberIntsRow.holds Tryd.pinned (OpenSpec.ofChange numberIntsWrong)

/-- 'inequalitylaw01.NumberMuls': WHATEVER THE INPUT: true; the input reads as it did. -/
def numberMulsSpec : ChangeSpec := { name := "numberMuls", fn := fun _ => fun
  | [d1, d2] => { results := [.lit (.bool true)], args := [d1, d2] }
  | _ => none }
def numberMulsRow : OpenClaim := { program := "ythgggofobbokeaadoor", sum := "5de2f5599e827bc4d34b3233e1d9a97d6298885e6bfc49d90428d6d595cf8710", func := "inequality/inequalitylaw01.NumberMuls", spec := "numberMuls", unfollowed := true, recurses := true, named := ["math/bits.deBruijn32tab"], apart := false, laid := [("math/bits.deBruijn32tab", laid_math_bits_deBruijn32tab)] }
def NumberMulsSaid : Prop := numberMulsRow.holds Tryd.pinned (OpenSpec.ofChange numberMulsSpec)

/-- ITS FALSE NEIGHBOUR: 'it returns false'. Refute it at one input. -/
def numberMulsWrong : ChangeSpec := { name := "numberMuls", fn := fun _ => fun
  | [d1, d2] => { results := [.lit (.bool false)], args := [d1, d2] }
  | _ => none }
def NumberMulsWrongFalsely : Prop := numberMulsRow.holds Tryd.pinned (OpenSpec.ofChange numberMulsWrong)

/-- 'inequalitylaw01.NumberFloors': WHATEVER THE INPUT: true; the input reads as it did. -/
def numberFloorsSpec : ChangeSpec := { name := "numberFloors", fn := fun _ => fun
  | [d] => { results := [.lit (.bool true)], args := [d] }
  | _ => none }
def numberFloorsRow : OpenClaim := { program := "ythgggofobbokeaadoor", sum := "5de2f5599e827bc4d34b3233e1d9a97d6298885e6bfc49d90428d6d595cf8710", func := "inequality/inequalitylaw01.NumberFloors", spec := "numberFloors", unfollowed := true, recurses := true, named := ["math/bits.deBruijn32tab"], apart := false, laid := [("math/bits.deBruijn32tab", laid_math_bits_deBruijn32tab)] }
def NumberFloorsSaid : Prop := numberFloorsRow.holds Tryd.pinned (OpenSpec.ofChange numberFloorsSpec)

/-- ITS FALSE NEIGHBOUR: 'it returns false'. Refute it at one input. -/
def numberFloorsWrong : ChangeSpec := { name := "numberFloors", fn := fun _ => fun
  | [d] => { results := [.lit (.bool false)], args := [d] }
  | _ => none }
def NumberFloorsWrongFalsely : Prop := numberFloorsRow.holds Tryd.pinned (OpenSpec.ofChange numberFloorsWrong)

/-- 'inequalitylaw01.NumberGrids': WHATEVER THE INPUT: true; the input reads as it did. -/
def numberGridsSpec : ChangeSpec := { name := "numberGrids", fn := fun _ => fun
  | [d1, d2] => { results := [.lit (.bool true)], args := [d1, d2] }
  | _ => none }
def numberGridsRow : OpenClaim := { program := "ythgggofobbokeaadoor", sum := "5de2f5599e827bc4d34b3233e1d9a97d6298885e6bfc49d90428d6d595cf8710", func := "inequality/inequalitylaw01.NumberGrids", spec := "numberGrids", unfollowed := true, recurses := true, named := ["math/bits.deBruijn32tab"], apart := false, laid := [("math/bits.deBruijn32tab", laid_math_bits_deBruijn32tab)] }
def NumberGridsSaid : Prop := numberGridsRow.holds Tryd.pinned (OpenSpec.ofChange numberGridsSpec)

/-- ITS FALSE NEIGHBOUR: 'it returns false'. Refute it at one input. -/
def numberGridsWrong : ChangeSpec := { name := "numberGrids", fn := fun _ => fun
  | [d1, d2] => { results := [.lit (.bool false)], args := [d1, d2] }
  | _ => none }
def NumberGridsWrongFalsely : Prop := numberGridsRow.holds Tryd.pinned (OpenSpec.ofChange numberGridsWrong)

/-- 'inequalitylaw01.NumberField': WHATEVER THE INPUT: true; the input reads as it did. -/
def numberFieldSpec : ChangeSpec := { name := "numberField", fn := fun _ => fun
  | [d1, d2, d3] => { results := [.lit (.bool true)], args := [d1, d2, d3] }
  | _ => none }
def numberFieldRow : OpenClaim := { program := "ythgggofobbokeaadoor", sum := "5de2f5599e827bc4d34b3233e1d9a97d6298885e6bfc49d90428d6d595cf8710", func := "inequality/inequalitylaw01.NumberField", spec := "numberField", unfollowed := true, recurses := true, named := ["math/bits.deBruijn32tab"], apart := false, laid := [("math/bits.deBruijn32tab", laid_math_bits_deBruijn32tab)] }
def NumberFieldSaid : Prop := numberFieldRow.holds Tryd.pinned (OpenSpec.ofChange numberFieldSpec)

/-- ITS FALSE NEIGHBOUR: 'it returns false'. Refute it at one input. -/
def numberFieldWrong : ChangeSpec := { name := "numberField", fn := fun _ => fun
  | [d1, d2, d3] => { results := [.lit (.bool false)], args := [d1, d2, d3] }
  | _ => none }
def NumberFieldWrongFalsely : Prop := numberFieldRow.holds Tryd.pinned (OpenSpec.ofChange numberFieldWrong)

/-- 'inequalitylaw01.NumberCompares': WHATEVER THE INPUT: true; the input reads as it did. -/
def numberComparesSpec : ChangeSpec := { name := "numberCompares", fn := fun _ => fun
  | [d1, d2] => { results := [.lit (.bool true)], args := [d1, d2] }
  | _ => none }
def numberComparesRow : OpenClaim := { program := "ythgggofobbokeaadoor", sum := "5de2f5599e827bc4d34b3233e1d9a97d6298885e6bfc49d90428d6d595cf8710", func := "inequality/inequalitylaw01.NumberCompares", spec := "numberCompares", unfollowed := true, recurses := true, named := ["math/bits.deBruijn32tab"], apart := false, laid := [("math/bits.deBruijn32tab", laid_math_bits_deBruijn32tab)] }
def NumberComparesSaid : Prop := numberComparesRow.holds Tryd.pinned (OpenSpec.ofChange numberComparesSpec)

/-- ITS FALSE NEIGHBOUR: 'it returns false'. Refute it at one input. -/
def numberComparesWrong : ChangeSpec := { name := "numberCompares", fn := fun _ => fun
  | [d1, d2] => { results := [.lit (.bool false)], args := [d1, d2] }
  | _ => none }
def NumberComparesWrongFalsely : Prop := numberComparesRow.holds Tryd.pinned (OpenSpec.ofChange numberComparesWrong)

/-- 'inequalitylaw01.NumberPows': WHATEVER THE INPUT: true; the input reads as it did. -/
def numberPowsSpec : ChangeSpec := { name := "numberPows", fn := fun _ => fun
  | [d1, d2] => { results := [.lit (.bool true)], args := [d1, d2] }
  | _ => none }
def numberPowsRow : OpenClaim := { program := "ythgggofobbokeaadoor", sum := "5de2f5599e827bc4d34b3233e1d9a97d6298885e6bfc49d90428d6d595cf8710", func := "inequality/inequalitylaw01.NumberPows", spec := "numberPows", unfollowed := true, recurses := true, named := ["math/bits.deBruijn32tab"], apart := false, laid := [("math/bits.deBruijn32tab", laid_math_bits_deBruijn32tab)] }
def NumberPowsSaid : Prop := numberPowsRow.holds Tryd.pinned (OpenSpec.ofChange numberPowsSpec)

/-- ITS FALSE NEIGHBOUR: 'it returns false'. Refute it at one input. -/
def numberPowsWrong : ChangeSpec := { name := "numberPows", fn := fun _ => fun
  | [d1, d2] => { results := [.lit (.bool false)], args := [d1, d2] }
  | _ => none }
def NumberPowsWrongFalsely : Prop := numberPowsRow.holds Tryd.pinned (OpenSpec.ofChange numberPowsWrong)

/-- 'inequalitylaw01.NumberFormats': WHATEVER THE INPUT: true; the input reads as it did. -/
def numberFormatsSpec : ChangeSpec := { name := "numberFormats", fn := fun _ => fun
  | [d] => { results := [.lit (.bool true)], args := [d] }
  | _ => none }
def numberFormatsRow : OpenClaim := { program := "ythgggofobbokeaadoor", sum := "5de2f5599e827bc4d34b3233e1d9a97d6298885e6bfc49d90428d6d595cf8710", func := "inequality/inequalitylaw01.NumberFormats", spec := "numberFormats", unfollowed := true, recurses := true, named := ["math/bits.deBruijn32tab"], apart := false, laid := [("math/bits.deBruijn32tab", laid_math_bits_deBruijn32tab)] }
def NumberFormatsSaid : Prop := numberFormatsRow.holds Tryd.pinned (OpenSpec.ofChange numberFormatsSpec)

/-- ITS FALSE NEIGHBOUR: 'it returns false'. Refute it at one input. -/
def numberFormatsWrong : ChangeSpec := { name := "numberFormats", fn := fun _ => fun
  | [d] => { results := [.lit (.bool false)], args := [d] }
  | _ => none }
def NumberFormatsWrongFalsely : Prop := numberFormatsRow.holds Tryd.pinned (OpenSpec.ofChange numberFormatsWrong)

/- THE SECOND FORM. 'bulk': how many values and letters a reading holds, each counted each time it is reached (what is shared counts as often as it is met; a slice's spare places count too). A statement '..UptoSaid' is the law's where the arguments, and the package variables that the reading takes, are together of bulk at most 1048576: NARROWER than '..Said'. Prove '..Said' where nothing that the law and all that it calls make is longer than what came in: it says more and counts as full. Else prove '..UptoSaid'. A law counts once. -/
mutual
def uptoBulk {H : Type} : DataW H → Nat
  | .lit (.string bytes) => bytes.length + 1
  | .lit _ => 1
  | .nil => 1
  | .ptr d => uptoBulk d + 1
  | .slice elems spare => uptoBulkAll elems + uptoBulkAll spare + 1
  | .agg parts => uptoBulkAll parts + 1
  | .iface _ d => uptoBulk d + 1
  | .map entries => uptoBulkEntries entries + 1
  | .held _ => 1
def uptoBulkAll {H : Type} : List (DataW H) → Nat
  | [] => 0
  | d :: r => uptoBulk d + uptoBulkAll r
def uptoBulkEntries {H : Type} : List (Lit × DataW H) → Nat
  | [] => 0
  | x :: r => uptoBulkEntry x + uptoBulkEntries r
def uptoBulkEntry {H : Type} : Lit × DataW H → Nat
  | (.string bytes, d) => bytes.length + uptoBulk d + 1
  | (_, d) => uptoBulk d + 1
 end
def uptoSmall : (H : Type) → List (DataW H) → Bool := fun _ ds => decide (uptoBulkAll ds ≤ 1048576)
def OpenSpec.upto (s : _root_.Go.ChangeSpec) : _root_.Go.OpenSpec := { _root_.Go.OpenSpec.ofChange s with cond := some uptoSmall }

/-- 'inequalitylaw01.NumberMiddles', WHERE WHAT IT READS IS OF BULK AT MOST 1048576: true; the input reads as it did. -/
def numberMiddlesUptoRow : OpenClaim := { program := "ythgggofobbokeaadoor", sum := "5de2f5599e827bc4d34b3233e1d9a97d6298885e6bfc49d90428d6d595cf8710", func := "inequality/inequalitylaw01.NumberMiddles", spec := "numberMiddles", unfollowed := true, recurses := true, named := ["math/bits.deBruijn32tab"], apart := false, laid := [("math/bits.deBruijn32tab", laid_math_bits_deBruijn32tab)], narrowed := true }
def NumberMiddlesUptoSaid : Prop := numberMiddlesUptoRow.holds Tryd.pinned (OpenSpec.upto numberMiddlesSpec)

/-- 'inequalitylaw01.NumberAdds', WHERE WHAT IT READS IS OF BULK AT MOST 1048576: true; the input reads as it did. -/
def numberAddsUptoRow : OpenClaim := { program := "ythgggofobbokeaadoor", sum := "5de2f5599e827bc4d34b3233e1d9a97d6298885e6bfc49d90428d6d595cf8710", func := "inequality/inequalitylaw01.NumberAdds", spec := "numberAdds", unfollowed := true, recurses := true, named := ["math/bits.deBruijn32tab"], apart := false, laid := [("math/bits.deBruijn32tab", laid_math_bits_deBruijn32tab)], narrowed := true }
def NumberAddsUptoSaid : Prop := numberAddsUptoRow.holds Tryd.pinned (OpenSpec.upto numberAddsSpec)

/-- 'inequalitylaw01.NumberBits', WHERE WHAT IT READS IS OF BULK AT MOST 1048576: true; the input reads as it did. -/
def numberBitsUptoRow : OpenClaim := { program := "ythgggofobbokeaadoor", sum := "5de2f5599e827bc4d34b3233e1d9a97d6298885e6bfc49d90428d6d595cf8710", func := "inequality/inequalitylaw01.NumberBits", spec := "numberBits", unfollowed := true, recurses := true, named := ["math/bits.deBruijn32tab"], apart := false, laid := [("math/bits.deBruijn32tab", laid_math_bits_deBruijn32tab)], narrowed := true }
def NumberBitsUptoSaid : Prop := numberBitsUptoRow.holds Tryd.pinned (OpenSpec.upto numberBitsSpec)

/-- 'inequalitylaw01.NumberCanons', WHERE WHAT IT READS IS OF BULK AT MOST 1048576: true; the input reads as it did. -/
def numberCanonsUptoRow : OpenClaim := { program := "ythgggofobbokeaadoor", sum := "5de2f5599e827bc4d34b3233e1d9a97d6298885e6bfc49d90428d6d595cf8710", func := "inequality/inequalitylaw01.NumberCanons", spec := "numberCanons", unfollowed := true, recurses := true, named := ["math/bits.deBruijn32tab"], apart := false, laid := [("math/bits.deBruijn32tab", laid_math_bits_deBruijn32tab)], narrowed := true }
def NumberCanonsUptoSaid : Prop := numberCanonsUptoRow.holds Tryd.pinned (OpenSpec.upto numberCanonsSpec)

/-- 'inequalitylaw01.NumberInts', WHERE WHAT IT READS IS OF BULK AT MOST 1048576: true; the input reads as it did. -/
def numberIntsUptoRow : OpenClaim := { program := "ythgggofobbokeaadoor", sum := "5de2f5599e827bc4d34b3233e1d9a97d6298885e6bfc49d90428d6d595cf8710", func := "inequality/inequalitylaw01.NumberInts", spec := "numberInts", unfollowed := true, recurses := true, named := ["math/bits.deBruijn32tab"], apart := false, laid := [("math/bits.deBruijn32tab", laid_math_bits_deBruijn32tab)], narrowed := true }
def NumberIntsUptoSaid : Prop := numberIntsUptoRow.holds Tryd.pinned (OpenSpec.upto numberIntsSpec)

/-- 'inequalitylaw01.NumberMuls', WHERE WHAT IT READS IS OF BULK AT MOST 1048576: true; the input reads as it did. -/
def numberMulsUptoRow : OpenClaim := { program := "ythgggofobbokeaadoor", sum := "5de2f5599e827bc4d34b3233e1d9a97d6298885e6bfc49d90428d6d595cf8710", func := "inequality/inequalitylaw01.NumberMuls", spec := "numberMuls", unfollowed := true, recurses := true, named := ["math/bits.deBruijn32tab"], apart := false, laid := [("math/bits.deBruijn32tab", laid_math_bits_deBruijn32tab)], narrowed := true }
def NumberMulsUptoSaid : Prop := numberMulsUptoRow.holds Tryd.pinned (OpenSpec.upto numberMulsSpec)

/-- 'inequalitylaw01.NumberFloors', WHERE WHAT IT READS IS OF BULK AT MOST 1048576: true; the input reads as it did. -/
def numberFloorsUptoRow : OpenClaim := { program := "ythgggofobbokeaadoor", sum := "5de2f5599e827bc4d34b3233e1d9a97d6298885e6bfc49d90428d6d595cf8710", func := "inequality/inequalitylaw01.NumberFloors", spec := "numberFloors", unfollowed := true, recurses := true, named := ["math/bits.deBruijn32tab"], apart := false, laid := [("math/bits.deBruijn32tab", laid_math_bits_deBruijn32tab)], narrowed := true }
def NumberFloorsUptoSaid : Prop := numberFloorsUptoRow.holds Tryd.pinned (OpenSpec.upto numberFloorsSpec)

/-- 'inequalitylaw01.NumberGrids', WHERE WHAT IT READS IS OF BULK AT MOST 1048576: true; the input reads as it did. -/
def numberGridsUptoRow : OpenClaim := { program := "ythgggofobbokeaadoor", sum := "5de2f5599e827bc4d34b3233e1d9a97d6298885e6bfc49d90428d6d595cf8710", func := "inequality/inequalitylaw01.NumberGrids", spec := "numberGrids", unfollowed := true, recurses := true, named := ["math/bits.deBruijn32tab"], apart := false, laid := [("math/bits.deBruijn32tab", laid_math_bits_deBruijn32tab)], narrowed := true }
def NumberGridsUptoSaid : Prop := numberGridsUptoRow.holds Tryd.pinned (OpenSpec.upto numberGridsSpec)

/-- 'inequalitylaw01.NumberField', WHERE WHAT IT READS IS OF BULK AT MOST 1048576: true; the input reads as it did. -/
def numberFieldUptoRow : OpenClaim := { program := "ythgggofobbokeaadoor", sum := "5de2f5599e827bc4d34b3233e1d9a97d6298885e6bfc49d90428d6d595cf8710", func := "inequality/inequalitylaw01.NumberField", spec := "numberField", unfollowed := true, recurses := true, named := ["math/bits.deBruijn32tab"], apart := false, laid := [("math/bits.deBruijn32tab", laid_math_bits_deBruijn32tab)], narrowed := true }
def NumberFieldUptoSaid : Prop := numberFieldUptoRow.holds Tryd.pinned (OpenSpec.upto numberFieldSpec)

/-- 'inequalitylaw01.NumberCompares', WHERE WHAT IT READS IS OF BULK AT MOST 1048576: true; the input reads as it did. -/
def numberComparesUptoRow : OpenClaim := { program := "ythgggofobbokeaadoor", sum := "5de2f5599e827bc4d34b3233e1d9a97d6298885e6bfc49d90428d6d595cf8710", func := "inequality/inequalitylaw01.NumberCompares", spec := "numberCompares", unfollowed := true, recurses := true, named := ["math/bits.deBruijn32tab"], apart := false, laid := [("math/bits.deBruijn32tab", laid_math_bits_deBruijn32tab)], narrowed := true }
def NumberComparesUptoSaid : Prop := numberComparesUptoRow.holds Tryd.pinned (OpenSpec.upto numberComparesSpec)

/-- 'inequalitylaw01.NumberPows', WHERE WHAT IT READS IS OF BULK AT MOST 1048576: true; the input reads as it did. -/
def numberPowsUptoRow : OpenClaim := { program := "ythgggofobbokeaadoor", sum := "5de2f5599e827bc4d34b3233e1d9a97d6298885e6bfc49d90428d6d595cf8710", func := "inequality/inequalitylaw01.NumberPows", spec := "numberPows", unfollowed := true, recurses := true, named := ["math/bits.deBruijn32tab"], apart := false, laid := [("math/bits.deBruijn32tab", laid_math_bits_deBruijn32tab)], narrowed := true }
def NumberPowsUptoSaid : Prop := numberPowsUptoRow.holds Tryd.pinned (OpenSpec.upto numberPowsSpec)

/-- 'inequalitylaw01.NumberFormats', WHERE WHAT IT READS IS OF BULK AT MOST 1048576: true; the input reads as it did. -/
def numberFormatsUptoRow : OpenClaim := { program := "ythgggofobbokeaadoor", sum := "5de2f5599e827bc4d34b3233e1d9a97d6298885e6bfc49d90428d6d595cf8710", func := "inequality/inequalitylaw01.NumberFormats", spec := "numberFormats", unfollowed := true, recurses := true, named := ["math/bits.deBruijn32tab"], apart := false, laid := [("math/bits.deBruijn32tab", laid_math_bits_deBruijn32tab)], narrowed := true }
def NumberFormatsUptoSaid : Prop := numberFormatsUptoRow.holds Tryd.pinned (OpenSpec.upto numberFormatsSpec)

end Rows
end Go.Proofs.YthgggofobbokeaaDoor

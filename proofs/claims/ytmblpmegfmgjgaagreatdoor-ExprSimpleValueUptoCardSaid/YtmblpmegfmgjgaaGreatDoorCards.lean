/-
  DERIVED. GIVEN WITH THE SEED: THE CARDS: each row of YtmblpmegfmgjgaaGreatDoorRows.lean that lists a variable, with what it lists TIED to the program's text (the seventh form; the later family's looks); each row that meets fmt, with fmt's text TOLD by the authors' own Lean function (tested against real Go, not proved from fmt's source: count such statements apart). THE CARD IS WHAT COUNTS. Prove the row's statement (the work); the ties are given (YtmblpmegfmgjgaaGreatDoorTie.lean); close each card by the builder's one call (the guide's Derived/Test/ToyasCard.lean, 'card_holds'). Laid BY PROGRAM, IN A SANDBOX (cutbox-door.mjs). By AI agents, Wed Nov 11 2026. No macro, syntax, notation, axiom, sorry.
-/
import Derived.Test.YtmblpmegfmgjgaaGreatDoorRows
import GoSem.ClaimSeven
namespace Go.Proofs.YtmblpmegfmgjgaaGreatDoor
namespace Rows

/-- THE TIED CARD OF 'inequalitylaw04.ExprSimplify'. -/
def exprSimplifyCard : Claim7 := { stood := { row := exprSimplifyRow, standIns := [], harness := (true, "e48fdc3a93efd0f6fc97e2994ca06be3cbc4270474d0e966274aacd81151cee4"), looks := true }, kinds := [], alts := [], laidByText := true, laidKinds := [.data, .data, .data, .data, .pinned], laidTests := true, laidLooks := .later }
def ExprSimplifyCardSaid : Prop := Claim7.holds Tryz.pinned (.plain (OpenSpec.ofChange exprSimplifySpec)) exprSimplifyCard

/-- THE TIED CARD OF 'inequalitylaw04.ExprValue'. -/
def exprValueCard : Claim7 := { stood := { row := exprValueRow, standIns := [], harness := (true, "e48fdc3a93efd0f6fc97e2994ca06be3cbc4270474d0e966274aacd81151cee4"), looks := true }, kinds := [], alts := [], laidByText := true, laidKinds := [.data, .data, .data, .data, .pinned], laidTests := true, laidLooks := .later }
def ExprValueCardSaid : Prop := Claim7.holds Tryz.pinned (.plain (OpenSpec.ofChange exprValueSpec)) exprValueCard

/-- THE TIED CARD OF 'inequalitylaw04.ExprLiteral'. -/
def exprLiteralCard : Claim7 := { stood := { row := exprLiteralRow, standIns := [], harness := (true, "e48fdc3a93efd0f6fc97e2994ca06be3cbc4270474d0e966274aacd81151cee4"), looks := true }, kinds := [], alts := [], laidByText := true, laidKinds := [.data, .data, .data, .data, .pinned], laidTests := true, laidLooks := .later }
def ExprLiteralCardSaid : Prop := Claim7.holds Tryz.pinned (.plain (OpenSpec.ofChange exprLiteralSpec)) exprLiteralCard

/-- THE TIED CARD OF 'inequalitylaw04.ExprDerive'. -/
def exprDeriveCard : Claim7 := { stood := { row := exprDeriveRow, standIns := [], harness := (true, "e48fdc3a93efd0f6fc97e2994ca06be3cbc4270474d0e966274aacd81151cee4"), looks := true }, kinds := [], alts := [], laidByText := true, laidKinds := [.data, .data, .data, .data, .pinned], laidTests := true, laidLooks := .later }
def ExprDeriveCardSaid : Prop := Claim7.holds Tryz.pinned (.plain (OpenSpec.ofChange exprDeriveSpec)) exprDeriveCard

/-- THE TIED CARD OF 'inequalitylaw04.ExprDeriveFree'. -/
def exprDeriveFreeCard : Claim7 := { stood := { row := exprDeriveFreeRow, standIns := [], harness := (true, "e48fdc3a93efd0f6fc97e2994ca06be3cbc4270474d0e966274aacd81151cee4"), looks := true }, kinds := [], alts := [], laidByText := true, laidKinds := [.data, .data, .data, .data, .pinned], laidTests := true, laidLooks := .later }
def ExprDeriveFreeCardSaid : Prop := Claim7.holds Tryz.pinned (.plain (OpenSpec.ofChange exprDeriveFreeSpec)) exprDeriveFreeCard

/-- THE TIED CARD OF 'inequalitylaw04.ExprSubstValue'. -/
def exprSubstValueCard : Claim7 := { stood := { row := exprSubstValueRow, standIns := [], harness := (true, "e48fdc3a93efd0f6fc97e2994ca06be3cbc4270474d0e966274aacd81151cee4"), looks := true }, kinds := [], alts := [], laidByText := true, laidKinds := [.data, .data, .data, .data, .pinned], laidTests := true, laidLooks := .later }
def ExprSubstValueCardSaid : Prop := Claim7.holds Tryz.pinned (.plain (OpenSpec.ofChange exprSubstValueSpec)) exprSubstValueCard

/-- THE TIED CARD OF 'inequalitylaw04.ExprBranchValue'. -/
def exprBranchValueCard : Claim7 := { stood := { row := exprBranchValueRow, standIns := [], harness := (true, "e48fdc3a93efd0f6fc97e2994ca06be3cbc4270474d0e966274aacd81151cee4"), looks := true }, kinds := [], alts := [], laidByText := true, laidKinds := [.data, .data, .data, .data, .pinned], laidTests := true, laidLooks := .later }
def ExprBranchValueCardSaid : Prop := Claim7.holds Tryz.pinned (.plain (OpenSpec.ofChange exprBranchValueSpec)) exprBranchValueCard

/-- THE TIED CARD OF 'inequalitylaw04.ExprSimpleValue'. -/
def exprSimpleValueCard : Claim7 := { stood := { row := exprSimpleValueRow, standIns := [], harness := (true, "e48fdc3a93efd0f6fc97e2994ca06be3cbc4270474d0e966274aacd81151cee4"), looks := true }, kinds := [], alts := [], laidByText := true, laidKinds := [.data, .data, .data, .data, .pinned], laidTests := true, laidLooks := .later }
def ExprSimpleValueCardSaid : Prop := Claim7.holds Tryz.pinned (.plain (OpenSpec.ofChange exprSimpleValueSpec)) exprSimpleValueCard

/-- THE TIED CARD OF 'inequalitylaw04.ExprDeriveParts'. -/
def exprDerivePartsCard : Claim7 := { stood := { row := exprDerivePartsRow, standIns := [], harness := (true, "e48fdc3a93efd0f6fc97e2994ca06be3cbc4270474d0e966274aacd81151cee4"), looks := true }, kinds := [], alts := [], laidByText := true, laidKinds := [.data, .data, .data, .data, .pinned], laidTests := true, laidLooks := .later }
def ExprDerivePartsCardSaid : Prop := Claim7.holds Tryz.pinned (.plain (OpenSpec.ofChange exprDerivePartsSpec)) exprDerivePartsCard

/-- THE TIED CARD OF 'inequalitylaw04.ExprSubst'. -/
def exprSubstCard : Claim7 := { stood := { row := exprSubstRow, standIns := [], harness := (true, "e48fdc3a93efd0f6fc97e2994ca06be3cbc4270474d0e966274aacd81151cee4"), looks := true }, kinds := [], alts := [], laidByText := true, laidKinds := [.data, .data, .data, .data, .pinned], laidTests := true, laidLooks := .later }
def ExprSubstCardSaid : Prop := Claim7.holds Tryz.pinned (.plain (OpenSpec.ofChange exprSubstSpec)) exprSubstCard

/-- THE TIED CARD OF 'inequalitylaw04.ExprValid'. -/
def exprValidCard : Claim7 := { stood := { row := exprValidRow, standIns := [], harness := (true, "e48fdc3a93efd0f6fc97e2994ca06be3cbc4270474d0e966274aacd81151cee4"), looks := true }, kinds := [], alts := [], laidByText := true, laidKinds := [.data, .data, .data, .data, .pinned], laidTests := true, laidLooks := .later }
def ExprValidCardSaid : Prop := Claim7.holds Tryz.pinned (.plain (OpenSpec.ofChange exprValidSpec)) exprValidCard

/-- THE TIED CARD OF 'inequalitylaw04.ExprParses'. -/
def exprParsesCard : Claim7 := { stood := { row := exprParsesRow, standIns := [], harness := (true, "e48fdc3a93efd0f6fc97e2994ca06be3cbc4270474d0e966274aacd81151cee4"), looks := true }, kinds := [], alts := [], laidByText := true, laidKinds := [.data, .data, .data, .data, .pinned], laidTests := true, laidLooks := .later }
def ExprParsesCardSaid : Prop := Claim7.holds Tryz.pinned (.plain (OpenSpec.ofChange exprParsesSpec)) exprParsesCard

/-- THE TIED CARD OF 'inequalitylaw04.ExprPrints'. -/
def exprPrintsCard : Claim7 := { stood := { row := exprPrintsRow, standIns := [], harness := (true, "e48fdc3a93efd0f6fc97e2994ca06be3cbc4270474d0e966274aacd81151cee4"), looks := true }, kinds := [], alts := [], laidByText := true, laidKinds := [.data, .data, .data, .data, .pinned], laidTests := true, laidLooks := .later }
def ExprPrintsCardSaid : Prop := Claim7.holds Tryz.pinned (.plain (OpenSpec.ofChange exprPrintsSpec)) exprPrintsCard

/-- THE TIED CARD OF 'inequalitylaw04.ExprNormal'. -/
def exprNormalCard : Claim7 := { stood := { row := exprNormalRow, standIns := [], harness := (true, "e48fdc3a93efd0f6fc97e2994ca06be3cbc4270474d0e966274aacd81151cee4"), looks := true }, kinds := [], alts := [], laidByText := true, laidKinds := [.data, .data, .data, .data, .pinned], laidTests := true, laidLooks := .later }
def ExprNormalCardSaid : Prop := Claim7.holds Tryz.pinned (.plain (OpenSpec.ofChange exprNormalSpec)) exprNormalCard

/-- THE SECOND FORM's CARD OF 'inequalitylaw04.ExprSimplify'. -/
def exprSimplifyUptoCard : Claim7 := { stood := { row := exprSimplifyUptoRow, standIns := [], harness := (true, "e48fdc3a93efd0f6fc97e2994ca06be3cbc4270474d0e966274aacd81151cee4"), looks := true }, kinds := [], alts := [], laidByText := true, laidKinds := [.data, .data, .data, .data, .pinned], laidTests := true, laidLooks := .later }
def ExprSimplifyUptoCardSaid : Prop := Claim7.holds Tryz.pinned (.plain (OpenSpec.upto exprSimplifySpec)) exprSimplifyUptoCard

/-- THE SECOND FORM's CARD OF 'inequalitylaw04.ExprValue'. -/
def exprValueUptoCard : Claim7 := { stood := { row := exprValueUptoRow, standIns := [], harness := (true, "e48fdc3a93efd0f6fc97e2994ca06be3cbc4270474d0e966274aacd81151cee4"), looks := true }, kinds := [], alts := [], laidByText := true, laidKinds := [.data, .data, .data, .data, .pinned], laidTests := true, laidLooks := .later }
def ExprValueUptoCardSaid : Prop := Claim7.holds Tryz.pinned (.plain (OpenSpec.upto exprValueSpec)) exprValueUptoCard

/-- THE SECOND FORM's CARD OF 'inequalitylaw04.ExprLiteral'. -/
def exprLiteralUptoCard : Claim7 := { stood := { row := exprLiteralUptoRow, standIns := [], harness := (true, "e48fdc3a93efd0f6fc97e2994ca06be3cbc4270474d0e966274aacd81151cee4"), looks := true }, kinds := [], alts := [], laidByText := true, laidKinds := [.data, .data, .data, .data, .pinned], laidTests := true, laidLooks := .later }
def ExprLiteralUptoCardSaid : Prop := Claim7.holds Tryz.pinned (.plain (OpenSpec.upto exprLiteralSpec)) exprLiteralUptoCard

/-- THE SECOND FORM's CARD OF 'inequalitylaw04.ExprDerive'. -/
def exprDeriveUptoCard : Claim7 := { stood := { row := exprDeriveUptoRow, standIns := [], harness := (true, "e48fdc3a93efd0f6fc97e2994ca06be3cbc4270474d0e966274aacd81151cee4"), looks := true }, kinds := [], alts := [], laidByText := true, laidKinds := [.data, .data, .data, .data, .pinned], laidTests := true, laidLooks := .later }
def ExprDeriveUptoCardSaid : Prop := Claim7.holds Tryz.pinned (.plain (OpenSpec.upto exprDeriveSpec)) exprDeriveUptoCard

/-- THE SECOND FORM's CARD OF 'inequalitylaw04.ExprDeriveFree'. -/
def exprDeriveFreeUptoCard : Claim7 := { stood := { row := exprDeriveFreeUptoRow, standIns := [], harness := (true, "e48fdc3a93efd0f6fc97e2994ca06be3cbc4270474d0e966274aacd81151cee4"), looks := true }, kinds := [], alts := [], laidByText := true, laidKinds := [.data, .data, .data, .data, .pinned], laidTests := true, laidLooks := .later }
def ExprDeriveFreeUptoCardSaid : Prop := Claim7.holds Tryz.pinned (.plain (OpenSpec.upto exprDeriveFreeSpec)) exprDeriveFreeUptoCard

/-- THE SECOND FORM's CARD OF 'inequalitylaw04.ExprSubstValue'. -/
def exprSubstValueUptoCard : Claim7 := { stood := { row := exprSubstValueUptoRow, standIns := [], harness := (true, "e48fdc3a93efd0f6fc97e2994ca06be3cbc4270474d0e966274aacd81151cee4"), looks := true }, kinds := [], alts := [], laidByText := true, laidKinds := [.data, .data, .data, .data, .pinned], laidTests := true, laidLooks := .later }
def ExprSubstValueUptoCardSaid : Prop := Claim7.holds Tryz.pinned (.plain (OpenSpec.upto exprSubstValueSpec)) exprSubstValueUptoCard

/-- THE SECOND FORM's CARD OF 'inequalitylaw04.ExprBranchValue'. -/
def exprBranchValueUptoCard : Claim7 := { stood := { row := exprBranchValueUptoRow, standIns := [], harness := (true, "e48fdc3a93efd0f6fc97e2994ca06be3cbc4270474d0e966274aacd81151cee4"), looks := true }, kinds := [], alts := [], laidByText := true, laidKinds := [.data, .data, .data, .data, .pinned], laidTests := true, laidLooks := .later }
def ExprBranchValueUptoCardSaid : Prop := Claim7.holds Tryz.pinned (.plain (OpenSpec.upto exprBranchValueSpec)) exprBranchValueUptoCard

/-- THE SECOND FORM's CARD OF 'inequalitylaw04.ExprSimpleValue'. -/
def exprSimpleValueUptoCard : Claim7 := { stood := { row := exprSimpleValueUptoRow, standIns := [], harness := (true, "e48fdc3a93efd0f6fc97e2994ca06be3cbc4270474d0e966274aacd81151cee4"), looks := true }, kinds := [], alts := [], laidByText := true, laidKinds := [.data, .data, .data, .data, .pinned], laidTests := true, laidLooks := .later }
def ExprSimpleValueUptoCardSaid : Prop := Claim7.holds Tryz.pinned (.plain (OpenSpec.upto exprSimpleValueSpec)) exprSimpleValueUptoCard

/-- THE SECOND FORM's CARD OF 'inequalitylaw04.ExprDeriveParts'. -/
def exprDerivePartsUptoCard : Claim7 := { stood := { row := exprDerivePartsUptoRow, standIns := [], harness := (true, "e48fdc3a93efd0f6fc97e2994ca06be3cbc4270474d0e966274aacd81151cee4"), looks := true }, kinds := [], alts := [], laidByText := true, laidKinds := [.data, .data, .data, .data, .pinned], laidTests := true, laidLooks := .later }
def ExprDerivePartsUptoCardSaid : Prop := Claim7.holds Tryz.pinned (.plain (OpenSpec.upto exprDerivePartsSpec)) exprDerivePartsUptoCard

/-- THE SECOND FORM's CARD OF 'inequalitylaw04.ExprSubst'. -/
def exprSubstUptoCard : Claim7 := { stood := { row := exprSubstUptoRow, standIns := [], harness := (true, "e48fdc3a93efd0f6fc97e2994ca06be3cbc4270474d0e966274aacd81151cee4"), looks := true }, kinds := [], alts := [], laidByText := true, laidKinds := [.data, .data, .data, .data, .pinned], laidTests := true, laidLooks := .later }
def ExprSubstUptoCardSaid : Prop := Claim7.holds Tryz.pinned (.plain (OpenSpec.upto exprSubstSpec)) exprSubstUptoCard

/-- THE SECOND FORM's CARD OF 'inequalitylaw04.ExprValid'. -/
def exprValidUptoCard : Claim7 := { stood := { row := exprValidUptoRow, standIns := [], harness := (true, "e48fdc3a93efd0f6fc97e2994ca06be3cbc4270474d0e966274aacd81151cee4"), looks := true }, kinds := [], alts := [], laidByText := true, laidKinds := [.data, .data, .data, .data, .pinned], laidTests := true, laidLooks := .later }
def ExprValidUptoCardSaid : Prop := Claim7.holds Tryz.pinned (.plain (OpenSpec.upto exprValidSpec)) exprValidUptoCard

/-- THE SECOND FORM's CARD OF 'inequalitylaw04.ExprParses'. -/
def exprParsesUptoCard : Claim7 := { stood := { row := exprParsesUptoRow, standIns := [], harness := (true, "e48fdc3a93efd0f6fc97e2994ca06be3cbc4270474d0e966274aacd81151cee4"), looks := true }, kinds := [], alts := [], laidByText := true, laidKinds := [.data, .data, .data, .data, .pinned], laidTests := true, laidLooks := .later }
def ExprParsesUptoCardSaid : Prop := Claim7.holds Tryz.pinned (.plain (OpenSpec.upto exprParsesSpec)) exprParsesUptoCard

/-- THE SECOND FORM's CARD OF 'inequalitylaw04.ExprPrints'. -/
def exprPrintsUptoCard : Claim7 := { stood := { row := exprPrintsUptoRow, standIns := [], harness := (true, "e48fdc3a93efd0f6fc97e2994ca06be3cbc4270474d0e966274aacd81151cee4"), looks := true }, kinds := [], alts := [], laidByText := true, laidKinds := [.data, .data, .data, .data, .pinned], laidTests := true, laidLooks := .later }
def ExprPrintsUptoCardSaid : Prop := Claim7.holds Tryz.pinned (.plain (OpenSpec.upto exprPrintsSpec)) exprPrintsUptoCard

/-- THE SECOND FORM's CARD OF 'inequalitylaw04.ExprNormal'. -/
def exprNormalUptoCard : Claim7 := { stood := { row := exprNormalUptoRow, standIns := [], harness := (true, "e48fdc3a93efd0f6fc97e2994ca06be3cbc4270474d0e966274aacd81151cee4"), looks := true }, kinds := [], alts := [], laidByText := true, laidKinds := [.data, .data, .data, .data, .pinned], laidTests := true, laidLooks := .later }
def ExprNormalUptoCardSaid : Prop := Claim7.holds Tryz.pinned (.plain (OpenSpec.upto exprNormalSpec)) exprNormalUptoCard
end Rows
end Go.Proofs.YtmblpmegfmgjgaaGreatDoor

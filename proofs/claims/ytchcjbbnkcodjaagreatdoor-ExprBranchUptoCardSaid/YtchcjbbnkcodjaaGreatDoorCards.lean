/-
  DERIVED. GIVEN WITH THE SEED: THE CARDS: each row of YtchcjbbnkcodjaaGreatDoorRows.lean that lists a variable, with what it lists TIED to the program's text (the seventh form; the later family's looks); each row that meets fmt, with fmt's text TOLD by the authors' own Lean function (tested against real Go, not proved from fmt's source: count such statements apart). THE CARD IS WHAT COUNTS. Prove the row's statement (the work); the ties are given (YtchcjbbnkcodjaaGreatDoorTie.lean); close each card by the builder's one call (the guide's Derived/Test/ToyasCard.lean, 'card_holds'). Laid BY PROGRAM, IN A SANDBOX (cutbox-door.mjs). By AI agents, Wed Nov 11 2026. No macro, syntax, notation, axiom, sorry.
-/
import Derived.Test.YtchcjbbnkcodjaaGreatDoorRows
import GoSem.ClaimSeven
namespace Go.Proofs.YtchcjbbnkcodjaaGreatDoor
namespace Rows

/-- THE TIED CARD OF 'inequalitylaw04.ExprNames'. -/
def exprNamesCard : Claim7 := { stood := { row := exprNamesRow, standIns := [], harness := (true, "70ac016f720449ab3f0da90a453f31896b45b5dc40cf3e1711812cf0a658bfe4"), looks := true }, kinds := [], alts := [], laidByText := true, laidKinds := [.data, .data, .data, .data, .pinned], laidTests := true, laidLooks := .later }
def ExprNamesCardSaid : Prop := Claim7.holds Tryz.pinned (.plain (OpenSpec.ofChange exprNamesSpec)) exprNamesCard

/-- THE TIED CARD OF 'inequalitylaw04.ExprParses'. -/
def exprParsesCard : Claim7 := { stood := { row := exprParsesRow, standIns := [], harness := (true, "70ac016f720449ab3f0da90a453f31896b45b5dc40cf3e1711812cf0a658bfe4"), looks := true }, kinds := [], alts := [], laidByText := true, laidKinds := [.data, .data, .data, .data, .pinned], laidTests := true, laidLooks := .later }
def ExprParsesCardSaid : Prop := Claim7.holds Tryz.pinned (.plain (OpenSpec.ofChange exprParsesSpec)) exprParsesCard

/-- THE TIED CARD OF 'inequalitylaw04.ExprPrints'. -/
def exprPrintsCard : Claim7 := { stood := { row := exprPrintsRow, standIns := [], harness := (true, "70ac016f720449ab3f0da90a453f31896b45b5dc40cf3e1711812cf0a658bfe4"), looks := true }, kinds := [], alts := [], laidByText := true, laidKinds := [.data, .data, .data, .data, .pinned], laidTests := true, laidLooks := .later }
def ExprPrintsCardSaid : Prop := Claim7.holds Tryz.pinned (.plain (OpenSpec.ofChange exprPrintsSpec)) exprPrintsCard

/-- THE TIED CARD OF 'inequalitylaw04.ExprNormal'. -/
def exprNormalCard : Claim7 := { stood := { row := exprNormalRow, standIns := [], harness := (true, "70ac016f720449ab3f0da90a453f31896b45b5dc40cf3e1711812cf0a658bfe4"), looks := true }, kinds := [], alts := [], laidByText := true, laidKinds := [.data, .data, .data, .data, .pinned], laidTests := true, laidLooks := .later }
def ExprNormalCardSaid : Prop := Claim7.holds Tryz.pinned (.plain (OpenSpec.ofChange exprNormalSpec)) exprNormalCard

/-- THE TIED CARD OF 'inequalitylaw04.ExprSwap'. -/
def exprSwapCard : Claim7 := { stood := { row := exprSwapRow, standIns := [], harness := (true, "70ac016f720449ab3f0da90a453f31896b45b5dc40cf3e1711812cf0a658bfe4"), looks := true }, kinds := [], alts := [], laidByText := true, laidKinds := [.data, .data, .data, .data, .pinned], laidTests := true, laidLooks := .later }
def ExprSwapCardSaid : Prop := Claim7.holds Tryz.pinned (.plain (OpenSpec.ofChange exprSwapSpec)) exprSwapCard

/-- THE TIED CARD OF 'inequalitylaw04.ExprSubst'. -/
def exprSubstCard : Claim7 := { stood := { row := exprSubstRow, standIns := [], harness := (true, "70ac016f720449ab3f0da90a453f31896b45b5dc40cf3e1711812cf0a658bfe4"), looks := true }, kinds := [], alts := [], laidByText := true, laidKinds := [.data, .data, .data, .data, .pinned], laidTests := true, laidLooks := .later }
def ExprSubstCardSaid : Prop := Claim7.holds Tryz.pinned (.plain (OpenSpec.ofChange exprSubstSpec)) exprSubstCard

/-- THE TIED CARD OF 'inequalitylaw04.ExprEqual'. -/
def exprEqualCard : Claim7 := { stood := { row := exprEqualRow, standIns := [], harness := (true, "70ac016f720449ab3f0da90a453f31896b45b5dc40cf3e1711812cf0a658bfe4"), looks := true }, kinds := [], alts := [], laidByText := true, laidKinds := [.data, .data, .data, .data, .pinned], laidTests := true, laidLooks := .later }
def ExprEqualCardSaid : Prop := Claim7.holds Tryz.pinned (.plain (OpenSpec.ofChange exprEqualSpec)) exprEqualCard

/-- THE TIED CARD OF 'inequalitylaw04.ExprValid'. -/
def exprValidCard : Claim7 := { stood := { row := exprValidRow, standIns := [], harness := (true, "70ac016f720449ab3f0da90a453f31896b45b5dc40cf3e1711812cf0a658bfe4"), looks := true }, kinds := [], alts := [], laidByText := true, laidKinds := [.data, .data, .data, .data, .pinned], laidTests := true, laidLooks := .later }
def ExprValidCardSaid : Prop := Claim7.holds Tryz.pinned (.plain (OpenSpec.ofChange exprValidSpec)) exprValidCard

/-- THE TIED CARD OF 'inequalitylaw04.ExprBranch'. -/
def exprBranchCard : Claim7 := { stood := { row := exprBranchRow, standIns := [], harness := (true, "70ac016f720449ab3f0da90a453f31896b45b5dc40cf3e1711812cf0a658bfe4"), looks := true }, kinds := [], alts := [], laidByText := true, laidKinds := [.data, .data, .data, .data, .pinned], laidTests := true, laidLooks := .later }
def ExprBranchCardSaid : Prop := Claim7.holds Tryz.pinned (.plain (OpenSpec.ofChange exprBranchSpec)) exprBranchCard

/-- THE TIED CARD OF 'inequalitylaw04.ExprBranchEnds'. -/
def exprBranchEndsCard : Claim7 := { stood := { row := exprBranchEndsRow, standIns := [], harness := (true, "70ac016f720449ab3f0da90a453f31896b45b5dc40cf3e1711812cf0a658bfe4"), looks := true }, kinds := [], alts := [], laidByText := true, laidKinds := [.data, .data, .data, .data, .pinned], laidTests := true, laidLooks := .later }
def ExprBranchEndsCardSaid : Prop := Claim7.holds Tryz.pinned (.plain (OpenSpec.ofChange exprBranchEndsSpec)) exprBranchEndsCard

/-- THE TIED CARD OF 'inequalitylaw04.ExprPeriodic'. -/
def exprPeriodicCard : Claim7 := { stood := { row := exprPeriodicRow, standIns := [], harness := (true, "70ac016f720449ab3f0da90a453f31896b45b5dc40cf3e1711812cf0a658bfe4"), looks := true }, kinds := [], alts := [], laidByText := true, laidKinds := [.data, .data, .data, .data, .pinned], laidTests := true, laidLooks := .later }
def ExprPeriodicCardSaid : Prop := Claim7.holds Tryz.pinned (.plain (OpenSpec.ofChange exprPeriodicSpec)) exprPeriodicCard

/-- THE TIED CARD OF 'inequalitylaw04.ExprPeriodicParts'. -/
def exprPeriodicPartsCard : Claim7 := { stood := { row := exprPeriodicPartsRow, standIns := [], harness := (true, "70ac016f720449ab3f0da90a453f31896b45b5dc40cf3e1711812cf0a658bfe4"), looks := true }, kinds := [], alts := [], laidByText := true, laidKinds := [.data, .data, .data, .data, .pinned], laidTests := true, laidLooks := .later }
def ExprPeriodicPartsCardSaid : Prop := Claim7.holds Tryz.pinned (.plain (OpenSpec.ofChange exprPeriodicPartsSpec)) exprPeriodicPartsCard

/-- THE SECOND FORM's CARD OF 'inequalitylaw04.ExprNames'. -/
def exprNamesUptoCard : Claim7 := { stood := { row := exprNamesUptoRow, standIns := [], harness := (true, "70ac016f720449ab3f0da90a453f31896b45b5dc40cf3e1711812cf0a658bfe4"), looks := true }, kinds := [], alts := [], laidByText := true, laidKinds := [.data, .data, .data, .data, .pinned], laidTests := true, laidLooks := .later }
def ExprNamesUptoCardSaid : Prop := Claim7.holds Tryz.pinned (.plain (OpenSpec.upto exprNamesSpec)) exprNamesUptoCard

/-- THE SECOND FORM's CARD OF 'inequalitylaw04.ExprParses'. -/
def exprParsesUptoCard : Claim7 := { stood := { row := exprParsesUptoRow, standIns := [], harness := (true, "70ac016f720449ab3f0da90a453f31896b45b5dc40cf3e1711812cf0a658bfe4"), looks := true }, kinds := [], alts := [], laidByText := true, laidKinds := [.data, .data, .data, .data, .pinned], laidTests := true, laidLooks := .later }
def ExprParsesUptoCardSaid : Prop := Claim7.holds Tryz.pinned (.plain (OpenSpec.upto exprParsesSpec)) exprParsesUptoCard

/-- THE SECOND FORM's CARD OF 'inequalitylaw04.ExprPrints'. -/
def exprPrintsUptoCard : Claim7 := { stood := { row := exprPrintsUptoRow, standIns := [], harness := (true, "70ac016f720449ab3f0da90a453f31896b45b5dc40cf3e1711812cf0a658bfe4"), looks := true }, kinds := [], alts := [], laidByText := true, laidKinds := [.data, .data, .data, .data, .pinned], laidTests := true, laidLooks := .later }
def ExprPrintsUptoCardSaid : Prop := Claim7.holds Tryz.pinned (.plain (OpenSpec.upto exprPrintsSpec)) exprPrintsUptoCard

/-- THE SECOND FORM's CARD OF 'inequalitylaw04.ExprNormal'. -/
def exprNormalUptoCard : Claim7 := { stood := { row := exprNormalUptoRow, standIns := [], harness := (true, "70ac016f720449ab3f0da90a453f31896b45b5dc40cf3e1711812cf0a658bfe4"), looks := true }, kinds := [], alts := [], laidByText := true, laidKinds := [.data, .data, .data, .data, .pinned], laidTests := true, laidLooks := .later }
def ExprNormalUptoCardSaid : Prop := Claim7.holds Tryz.pinned (.plain (OpenSpec.upto exprNormalSpec)) exprNormalUptoCard

/-- THE SECOND FORM's CARD OF 'inequalitylaw04.ExprSwap'. -/
def exprSwapUptoCard : Claim7 := { stood := { row := exprSwapUptoRow, standIns := [], harness := (true, "70ac016f720449ab3f0da90a453f31896b45b5dc40cf3e1711812cf0a658bfe4"), looks := true }, kinds := [], alts := [], laidByText := true, laidKinds := [.data, .data, .data, .data, .pinned], laidTests := true, laidLooks := .later }
def ExprSwapUptoCardSaid : Prop := Claim7.holds Tryz.pinned (.plain (OpenSpec.upto exprSwapSpec)) exprSwapUptoCard

/-- THE SECOND FORM's CARD OF 'inequalitylaw04.ExprSubst'. -/
def exprSubstUptoCard : Claim7 := { stood := { row := exprSubstUptoRow, standIns := [], harness := (true, "70ac016f720449ab3f0da90a453f31896b45b5dc40cf3e1711812cf0a658bfe4"), looks := true }, kinds := [], alts := [], laidByText := true, laidKinds := [.data, .data, .data, .data, .pinned], laidTests := true, laidLooks := .later }
def ExprSubstUptoCardSaid : Prop := Claim7.holds Tryz.pinned (.plain (OpenSpec.upto exprSubstSpec)) exprSubstUptoCard

/-- THE SECOND FORM's CARD OF 'inequalitylaw04.ExprEqual'. -/
def exprEqualUptoCard : Claim7 := { stood := { row := exprEqualUptoRow, standIns := [], harness := (true, "70ac016f720449ab3f0da90a453f31896b45b5dc40cf3e1711812cf0a658bfe4"), looks := true }, kinds := [], alts := [], laidByText := true, laidKinds := [.data, .data, .data, .data, .pinned], laidTests := true, laidLooks := .later }
def ExprEqualUptoCardSaid : Prop := Claim7.holds Tryz.pinned (.plain (OpenSpec.upto exprEqualSpec)) exprEqualUptoCard

/-- THE SECOND FORM's CARD OF 'inequalitylaw04.ExprValid'. -/
def exprValidUptoCard : Claim7 := { stood := { row := exprValidUptoRow, standIns := [], harness := (true, "70ac016f720449ab3f0da90a453f31896b45b5dc40cf3e1711812cf0a658bfe4"), looks := true }, kinds := [], alts := [], laidByText := true, laidKinds := [.data, .data, .data, .data, .pinned], laidTests := true, laidLooks := .later }
def ExprValidUptoCardSaid : Prop := Claim7.holds Tryz.pinned (.plain (OpenSpec.upto exprValidSpec)) exprValidUptoCard

/-- THE SECOND FORM's CARD OF 'inequalitylaw04.ExprBranch'. -/
def exprBranchUptoCard : Claim7 := { stood := { row := exprBranchUptoRow, standIns := [], harness := (true, "70ac016f720449ab3f0da90a453f31896b45b5dc40cf3e1711812cf0a658bfe4"), looks := true }, kinds := [], alts := [], laidByText := true, laidKinds := [.data, .data, .data, .data, .pinned], laidTests := true, laidLooks := .later }
def ExprBranchUptoCardSaid : Prop := Claim7.holds Tryz.pinned (.plain (OpenSpec.upto exprBranchSpec)) exprBranchUptoCard

/-- THE SECOND FORM's CARD OF 'inequalitylaw04.ExprBranchEnds'. -/
def exprBranchEndsUptoCard : Claim7 := { stood := { row := exprBranchEndsUptoRow, standIns := [], harness := (true, "70ac016f720449ab3f0da90a453f31896b45b5dc40cf3e1711812cf0a658bfe4"), looks := true }, kinds := [], alts := [], laidByText := true, laidKinds := [.data, .data, .data, .data, .pinned], laidTests := true, laidLooks := .later }
def ExprBranchEndsUptoCardSaid : Prop := Claim7.holds Tryz.pinned (.plain (OpenSpec.upto exprBranchEndsSpec)) exprBranchEndsUptoCard

/-- THE SECOND FORM's CARD OF 'inequalitylaw04.ExprPeriodic'. -/
def exprPeriodicUptoCard : Claim7 := { stood := { row := exprPeriodicUptoRow, standIns := [], harness := (true, "70ac016f720449ab3f0da90a453f31896b45b5dc40cf3e1711812cf0a658bfe4"), looks := true }, kinds := [], alts := [], laidByText := true, laidKinds := [.data, .data, .data, .data, .pinned], laidTests := true, laidLooks := .later }
def ExprPeriodicUptoCardSaid : Prop := Claim7.holds Tryz.pinned (.plain (OpenSpec.upto exprPeriodicSpec)) exprPeriodicUptoCard

/-- THE SECOND FORM's CARD OF 'inequalitylaw04.ExprPeriodicParts'. -/
def exprPeriodicPartsUptoCard : Claim7 := { stood := { row := exprPeriodicPartsUptoRow, standIns := [], harness := (true, "70ac016f720449ab3f0da90a453f31896b45b5dc40cf3e1711812cf0a658bfe4"), looks := true }, kinds := [], alts := [], laidByText := true, laidKinds := [.data, .data, .data, .data, .pinned], laidTests := true, laidLooks := .later }
def ExprPeriodicPartsUptoCardSaid : Prop := Claim7.holds Tryz.pinned (.plain (OpenSpec.upto exprPeriodicPartsSpec)) exprPeriodicPartsUptoCard
end Rows
end Go.Proofs.YtchcjbbnkcodjaaGreatDoor

/-
  DERIVED. GIVEN WITH THE SEED: THE CARDS: each row of YtbgicephinomlaaGreatDoorRows.lean that lists a variable, with what it lists TIED to the program's text (the seventh form; the later family's looks); each row that meets fmt, with fmt's text TOLD by the authors' own Lean function (tested against real Go, not proved from fmt's source: count such statements apart). THE CARD IS WHAT COUNTS. Prove the row's statement (the work); the ties are given (YtbgicephinomlaaGreatDoorTie.lean); close each card by the builder's one call (the guide's Derived/Test/ToyasCard.lean, 'card_holds'). Laid BY PROGRAM, IN A SANDBOX (cutbox-door.mjs). By AI agents, Wed Nov 11 2026. No macro, syntax, notation, axiom, sorry.
-/
import Derived.Test.YtbgicephinomlaaGreatDoorRows
import GoSem.ClaimSeven
namespace Go.Proofs.YtbgicephinomlaaGreatDoor
namespace Rows

/-- THE TIED CARD OF 'inequalitylaw04.ExprDerive'. -/
def exprDeriveCard : Claim7 := { stood := { row := exprDeriveRow, standIns := [], harness := (true, "f0f673148254053f0aa800d136c0131f9b05a532faab8998b9e9e05c02f99a6a"), looks := true }, kinds := [], alts := [], laidByText := true, laidKinds := [.data, .data, .data, .data, .pinned], laidTests := true, laidLooks := .later }
def ExprDeriveCardSaid : Prop := Claim7.holds Tryz.pinned (.plain (OpenSpec.ofChange exprDeriveSpec)) exprDeriveCard

/-- THE TIED CARD OF 'inequalitylaw04.ExprDeriveFree'. -/
def exprDeriveFreeCard : Claim7 := { stood := { row := exprDeriveFreeRow, standIns := [], harness := (true, "f0f673148254053f0aa800d136c0131f9b05a532faab8998b9e9e05c02f99a6a"), looks := true }, kinds := [], alts := [], laidByText := true, laidKinds := [.data, .data, .data, .data, .pinned], laidTests := true, laidLooks := .later }
def ExprDeriveFreeCardSaid : Prop := Claim7.holds Tryz.pinned (.plain (OpenSpec.ofChange exprDeriveFreeSpec)) exprDeriveFreeCard

/-- THE TIED CARD OF 'inequalitylaw04.ExprDeriveParts'. -/
def exprDerivePartsCard : Claim7 := { stood := { row := exprDerivePartsRow, standIns := [], harness := (true, "f0f673148254053f0aa800d136c0131f9b05a532faab8998b9e9e05c02f99a6a"), looks := true }, kinds := [], alts := [], laidByText := true, laidKinds := [.data, .data, .data, .data, .pinned], laidTests := true, laidLooks := .later }
def ExprDerivePartsCardSaid : Prop := Claim7.holds Tryz.pinned (.plain (OpenSpec.ofChange exprDerivePartsSpec)) exprDerivePartsCard

/-- THE TIED CARD OF 'inequalitylaw04.ExprValid'. -/
def exprValidCard : Claim7 := { stood := { row := exprValidRow, standIns := [], harness := (true, "f0f673148254053f0aa800d136c0131f9b05a532faab8998b9e9e05c02f99a6a"), looks := true }, kinds := [], alts := [], laidByText := true, laidKinds := [.data, .data, .data, .data, .pinned], laidTests := true, laidLooks := .later }
def ExprValidCardSaid : Prop := Claim7.holds Tryz.pinned (.plain (OpenSpec.ofChange exprValidSpec)) exprValidCard

/-- THE SECOND FORM's CARD OF 'inequalitylaw04.ExprDerive'. -/
def exprDeriveUptoCard : Claim7 := { stood := { row := exprDeriveUptoRow, standIns := [], harness := (true, "f0f673148254053f0aa800d136c0131f9b05a532faab8998b9e9e05c02f99a6a"), looks := true }, kinds := [], alts := [], laidByText := true, laidKinds := [.data, .data, .data, .data, .pinned], laidTests := true, laidLooks := .later }
def ExprDeriveUptoCardSaid : Prop := Claim7.holds Tryz.pinned (.plain (OpenSpec.upto exprDeriveSpec)) exprDeriveUptoCard

/-- THE SECOND FORM's CARD OF 'inequalitylaw04.ExprDeriveFree'. -/
def exprDeriveFreeUptoCard : Claim7 := { stood := { row := exprDeriveFreeUptoRow, standIns := [], harness := (true, "f0f673148254053f0aa800d136c0131f9b05a532faab8998b9e9e05c02f99a6a"), looks := true }, kinds := [], alts := [], laidByText := true, laidKinds := [.data, .data, .data, .data, .pinned], laidTests := true, laidLooks := .later }
def ExprDeriveFreeUptoCardSaid : Prop := Claim7.holds Tryz.pinned (.plain (OpenSpec.upto exprDeriveFreeSpec)) exprDeriveFreeUptoCard

/-- THE SECOND FORM's CARD OF 'inequalitylaw04.ExprDeriveParts'. -/
def exprDerivePartsUptoCard : Claim7 := { stood := { row := exprDerivePartsUptoRow, standIns := [], harness := (true, "f0f673148254053f0aa800d136c0131f9b05a532faab8998b9e9e05c02f99a6a"), looks := true }, kinds := [], alts := [], laidByText := true, laidKinds := [.data, .data, .data, .data, .pinned], laidTests := true, laidLooks := .later }
def ExprDerivePartsUptoCardSaid : Prop := Claim7.holds Tryz.pinned (.plain (OpenSpec.upto exprDerivePartsSpec)) exprDerivePartsUptoCard

/-- THE SECOND FORM's CARD OF 'inequalitylaw04.ExprValid'. -/
def exprValidUptoCard : Claim7 := { stood := { row := exprValidUptoRow, standIns := [], harness := (true, "f0f673148254053f0aa800d136c0131f9b05a532faab8998b9e9e05c02f99a6a"), looks := true }, kinds := [], alts := [], laidByText := true, laidKinds := [.data, .data, .data, .data, .pinned], laidTests := true, laidLooks := .later }
def ExprValidUptoCardSaid : Prop := Claim7.holds Tryz.pinned (.plain (OpenSpec.upto exprValidSpec)) exprValidUptoCard
end Rows
end Go.Proofs.YtbgicephinomlaaGreatDoor

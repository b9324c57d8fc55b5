/-
  DERIVED. GIVEN WITH THE SEED: THE CARDS: each row of YtblecjeceecaaaaGreatDoorRows.lean that lists a variable, with what it lists TIED to the program's text (the seventh form; the later family's looks); each row that meets fmt, with fmt's text TOLD by the authors' own Lean function (tested against real Go, not proved from fmt's source: count such statements apart). THE CARD IS WHAT COUNTS. Prove the row's statement (the work); the ties are given (YtblecjeceecaaaaGreatDoorTie.lean); close each card by the builder's one call (the guide's Derived/Test/ToyasCard.lean, 'card_holds'). Laid BY PROGRAM, IN A SANDBOX (cutbox-door.mjs). By AI agents, Wed Nov 11 2026. No macro, syntax, notation, axiom, sorry.
-/
import Derived.Test.YtblecjeceecaaaaGreatDoorRows
import GoSem.ClaimSeven
namespace Go.Proofs.YtblecjeceecaaaaGreatDoor
namespace Rows

/-- THE TIED CARD OF 'inequalitylaw04.ExprCongruent'. -/
def exprCongruentCard : Claim7 := { stood := { row := exprCongruentRow, standIns := [], harness := (true, "422dbe4910d48b25885f825413101f11ccf41eb93d8edeec54d47998ea10b550"), looks := true }, kinds := [], alts := [], laidByText := true, laidKinds := [.data, .data, .data, .data, .pinned], laidTests := true, laidLooks := .later }
def ExprCongruentCardSaid : Prop := Claim7.holds Tryz.pinned (.plain (OpenSpec.ofChange exprCongruentSpec)) exprCongruentCard

/-- THE TIED CARD OF 'inequalitylaw04.ExprCongruence'. -/
def exprCongruenceCard : Claim7 := { stood := { row := exprCongruenceRow, standIns := [], harness := (true, "422dbe4910d48b25885f825413101f11ccf41eb93d8edeec54d47998ea10b550"), looks := true }, kinds := [], alts := [], laidByText := true, laidKinds := [.data, .data, .data, .data, .pinned], laidTests := true, laidLooks := .later }
def ExprCongruenceCardSaid : Prop := Claim7.holds Tryz.pinned (.plain (OpenSpec.ofChange exprCongruenceSpec)) exprCongruenceCard

/-- THE TIED CARD OF 'inequalitylaw04.ExprRing'. -/
def exprRingCard : Claim7 := { stood := { row := exprRingRow, standIns := [], harness := (true, "422dbe4910d48b25885f825413101f11ccf41eb93d8edeec54d47998ea10b550"), looks := true }, kinds := [], alts := [], laidByText := true, laidKinds := [.data, .data, .data, .data, .pinned], laidTests := true, laidLooks := .later }
def ExprRingCardSaid : Prop := Claim7.holds Tryz.pinned (.plain (OpenSpec.ofChange exprRingSpec)) exprRingCard

/-- THE TIED CARD OF 'inequalitylaw04.ExprPolyValue'. -/
def exprPolyValueCard : Claim7 := { stood := { row := exprPolyValueRow, standIns := [], harness := (true, "422dbe4910d48b25885f825413101f11ccf41eb93d8edeec54d47998ea10b550"), looks := true }, kinds := [], alts := [], laidByText := true, laidKinds := [.data, .data, .data, .data, .pinned], laidTests := true, laidLooks := .later }
def ExprPolyValueCardSaid : Prop := Claim7.holds Tryz.pinned (.plain (OpenSpec.ofChange exprPolyValueSpec)) exprPolyValueCard

/-- THE TIED CARD OF 'inequalitylaw04.ExprCongruentValue'. -/
def exprCongruentValueCard : Claim7 := { stood := { row := exprCongruentValueRow, standIns := [], harness := (true, "422dbe4910d48b25885f825413101f11ccf41eb93d8edeec54d47998ea10b550"), looks := true }, kinds := [], alts := [], laidByText := true, laidKinds := [.data, .data, .data, .data, .pinned], laidTests := true, laidLooks := .later }
def ExprCongruentValueCardSaid : Prop := Claim7.holds Tryz.pinned (.plain (OpenSpec.ofChange exprCongruentValueSpec)) exprCongruentValueCard

/-- THE TIED CARD OF 'inequalitylaw04.ExprDerivePoly'. -/
def exprDerivePolyCard : Claim7 := { stood := { row := exprDerivePolyRow, standIns := [], harness := (true, "422dbe4910d48b25885f825413101f11ccf41eb93d8edeec54d47998ea10b550"), looks := true }, kinds := [], alts := [], laidByText := true, laidKinds := [.data, .data, .data, .data, .pinned], laidTests := true, laidLooks := .later }
def ExprDerivePolyCardSaid : Prop := Claim7.holds Tryz.pinned (.plain (OpenSpec.ofChange exprDerivePolySpec)) exprDerivePolyCard

/-- THE TIED CARD OF 'inequalitylaw04.ExprSubstCongruent'. -/
def exprSubstCongruentCard : Claim7 := { stood := { row := exprSubstCongruentRow, standIns := [], harness := (true, "422dbe4910d48b25885f825413101f11ccf41eb93d8edeec54d47998ea10b550"), looks := true }, kinds := [], alts := [], laidByText := true, laidKinds := [.data, .data, .data, .data, .pinned], laidTests := true, laidLooks := .later }
def ExprSubstCongruentCardSaid : Prop := Claim7.holds Tryz.pinned (.plain (OpenSpec.ofChange exprSubstCongruentSpec)) exprSubstCongruentCard

/-- THE TIED CARD OF 'inequalitylaw04.ExprKept'. -/
def exprKeptCard : Claim7 := { stood := { row := exprKeptRow, standIns := [], harness := (true, "422dbe4910d48b25885f825413101f11ccf41eb93d8edeec54d47998ea10b550"), looks := true }, kinds := [], alts := [], laidByText := true, laidKinds := [.data, .data, .data, .data, .pinned], laidTests := true, laidLooks := .later }
def ExprKeptCardSaid : Prop := Claim7.holds Tryz.pinned (.plain (OpenSpec.ofChange exprKeptSpec)) exprKeptCard

/-- THE SECOND FORM's CARD OF 'inequalitylaw04.ExprCongruent'. -/
def exprCongruentUptoCard : Claim7 := { stood := { row := exprCongruentUptoRow, standIns := [], harness := (true, "422dbe4910d48b25885f825413101f11ccf41eb93d8edeec54d47998ea10b550"), looks := true }, kinds := [], alts := [], laidByText := true, laidKinds := [.data, .data, .data, .data, .pinned], laidTests := true, laidLooks := .later }
def ExprCongruentUptoCardSaid : Prop := Claim7.holds Tryz.pinned (.plain (OpenSpec.upto exprCongruentSpec)) exprCongruentUptoCard

/-- THE SECOND FORM's CARD OF 'inequalitylaw04.ExprCongruence'. -/
def exprCongruenceUptoCard : Claim7 := { stood := { row := exprCongruenceUptoRow, standIns := [], harness := (true, "422dbe4910d48b25885f825413101f11ccf41eb93d8edeec54d47998ea10b550"), looks := true }, kinds := [], alts := [], laidByText := true, laidKinds := [.data, .data, .data, .data, .pinned], laidTests := true, laidLooks := .later }
def ExprCongruenceUptoCardSaid : Prop := Claim7.holds Tryz.pinned (.plain (OpenSpec.upto exprCongruenceSpec)) exprCongruenceUptoCard

/-- THE SECOND FORM's CARD OF 'inequalitylaw04.ExprRing'. -/
def exprRingUptoCard : Claim7 := { stood := { row := exprRingUptoRow, standIns := [], harness := (true, "422dbe4910d48b25885f825413101f11ccf41eb93d8edeec54d47998ea10b550"), looks := true }, kinds := [], alts := [], laidByText := true, laidKinds := [.data, .data, .data, .data, .pinned], laidTests := true, laidLooks := .later }
def ExprRingUptoCardSaid : Prop := Claim7.holds Tryz.pinned (.plain (OpenSpec.upto exprRingSpec)) exprRingUptoCard

/-- THE SECOND FORM's CARD OF 'inequalitylaw04.ExprPolyValue'. -/
def exprPolyValueUptoCard : Claim7 := { stood := { row := exprPolyValueUptoRow, standIns := [], harness := (true, "422dbe4910d48b25885f825413101f11ccf41eb93d8edeec54d47998ea10b550"), looks := true }, kinds := [], alts := [], laidByText := true, laidKinds := [.data, .data, .data, .data, .pinned], laidTests := true, laidLooks := .later }
def ExprPolyValueUptoCardSaid : Prop := Claim7.holds Tryz.pinned (.plain (OpenSpec.upto exprPolyValueSpec)) exprPolyValueUptoCard

/-- THE SECOND FORM's CARD OF 'inequalitylaw04.ExprCongruentValue'. -/
def exprCongruentValueUptoCard : Claim7 := { stood := { row := exprCongruentValueUptoRow, standIns := [], harness := (true, "422dbe4910d48b25885f825413101f11ccf41eb93d8edeec54d47998ea10b550"), looks := true }, kinds := [], alts := [], laidByText := true, laidKinds := [.data, .data, .data, .data, .pinned], laidTests := true, laidLooks := .later }
def ExprCongruentValueUptoCardSaid : Prop := Claim7.holds Tryz.pinned (.plain (OpenSpec.upto exprCongruentValueSpec)) exprCongruentValueUptoCard

/-- THE SECOND FORM's CARD OF 'inequalitylaw04.ExprDerivePoly'. -/
def exprDerivePolyUptoCard : Claim7 := { stood := { row := exprDerivePolyUptoRow, standIns := [], harness := (true, "422dbe4910d48b25885f825413101f11ccf41eb93d8edeec54d47998ea10b550"), looks := true }, kinds := [], alts := [], laidByText := true, laidKinds := [.data, .data, .data, .data, .pinned], laidTests := true, laidLooks := .later }
def ExprDerivePolyUptoCardSaid : Prop := Claim7.holds Tryz.pinned (.plain (OpenSpec.upto exprDerivePolySpec)) exprDerivePolyUptoCard

/-- THE SECOND FORM's CARD OF 'inequalitylaw04.ExprSubstCongruent'. -/
def exprSubstCongruentUptoCard : Claim7 := { stood := { row := exprSubstCongruentUptoRow, standIns := [], harness := (true, "422dbe4910d48b25885f825413101f11ccf41eb93d8edeec54d47998ea10b550"), looks := true }, kinds := [], alts := [], laidByText := true, laidKinds := [.data, .data, .data, .data, .pinned], laidTests := true, laidLooks := .later }
def ExprSubstCongruentUptoCardSaid : Prop := Claim7.holds Tryz.pinned (.plain (OpenSpec.upto exprSubstCongruentSpec)) exprSubstCongruentUptoCard

/-- THE SECOND FORM's CARD OF 'inequalitylaw04.ExprKept'. -/
def exprKeptUptoCard : Claim7 := { stood := { row := exprKeptUptoRow, standIns := [], harness := (true, "422dbe4910d48b25885f825413101f11ccf41eb93d8edeec54d47998ea10b550"), looks := true }, kinds := [], alts := [], laidByText := true, laidKinds := [.data, .data, .data, .data, .pinned], laidTests := true, laidLooks := .later }
def ExprKeptUptoCardSaid : Prop := Claim7.holds Tryz.pinned (.plain (OpenSpec.upto exprKeptSpec)) exprKeptUptoCard
end Rows
end Go.Proofs.YtblecjeceecaaaaGreatDoor

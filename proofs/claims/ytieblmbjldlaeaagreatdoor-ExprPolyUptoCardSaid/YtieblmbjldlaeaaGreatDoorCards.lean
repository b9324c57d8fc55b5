/-
  DERIVED. GIVEN WITH THE SEED: THE CARDS: each row of YtieblmbjldlaeaaGreatDoorRows.lean that lists a variable, with what it lists TIED to the program's text (the seventh form; the later family's looks); each row that meets fmt, with fmt's text TOLD by the authors' own Lean function (tested against real Go, not proved from fmt's source: count such statements apart). THE CARD IS WHAT COUNTS. Prove the row's statement (the work); the ties are given (YtieblmbjldlaeaaGreatDoorTie.lean); close each card by the builder's one call (the guide's Derived/Test/ToyasCard.lean, 'card_holds'). Laid BY PROGRAM, IN A SANDBOX (cutbox-door.mjs). By AI agents, Wed Nov 11 2026. No macro, syntax, notation, axiom, sorry.
-/
import Derived.Test.YtieblmbjldlaeaaGreatDoorRows
import GoSem.ClaimSeven
namespace Go.Proofs.YtieblmbjldlaeaaGreatDoor
namespace Rows

/-- THE TIED CARD OF 'inequalitylaw04.ExprPoly'. -/
def exprPolyCard : Claim7 := { stood := { row := exprPolyRow, standIns := [], harness := (true, "65d48c9c01f07ed7dae47d3056428cf524001af1a22367481de5b8c71dfeae38"), looks := true }, kinds := [], alts := [], laidByText := true, laidKinds := [.data, .data, .data, .data, .pinned], laidTests := true, laidLooks := .later }
def ExprPolyCardSaid : Prop := Claim7.holds Tryz.pinned (.plain (OpenSpec.ofChange exprPolySpec)) exprPolyCard

/-- THE TIED CARD OF 'inequalitylaw04.ExprCongruent'. -/
def exprCongruentCard : Claim7 := { stood := { row := exprCongruentRow, standIns := [], harness := (true, "65d48c9c01f07ed7dae47d3056428cf524001af1a22367481de5b8c71dfeae38"), looks := true }, kinds := [], alts := [], laidByText := true, laidKinds := [.data, .data, .data, .data, .pinned], laidTests := true, laidLooks := .later }
def ExprCongruentCardSaid : Prop := Claim7.holds Tryz.pinned (.plain (OpenSpec.ofChange exprCongruentSpec)) exprCongruentCard

/-- THE TIED CARD OF 'inequalitylaw04.ExprCongruence'. -/
def exprCongruenceCard : Claim7 := { stood := { row := exprCongruenceRow, standIns := [], harness := (true, "65d48c9c01f07ed7dae47d3056428cf524001af1a22367481de5b8c71dfeae38"), looks := true }, kinds := [], alts := [], laidByText := true, laidKinds := [.data, .data, .data, .data, .pinned], laidTests := true, laidLooks := .later }
def ExprCongruenceCardSaid : Prop := Claim7.holds Tryz.pinned (.plain (OpenSpec.ofChange exprCongruenceSpec)) exprCongruenceCard

/-- THE TIED CARD OF 'inequalitylaw04.ExprRing'. -/
def exprRingCard : Claim7 := { stood := { row := exprRingRow, standIns := [], harness := (true, "65d48c9c01f07ed7dae47d3056428cf524001af1a22367481de5b8c71dfeae38"), looks := true }, kinds := [], alts := [], laidByText := true, laidKinds := [.data, .data, .data, .data, .pinned], laidTests := true, laidLooks := .later }
def ExprRingCardSaid : Prop := Claim7.holds Tryz.pinned (.plain (OpenSpec.ofChange exprRingSpec)) exprRingCard

/-- THE SECOND FORM's CARD OF 'inequalitylaw04.ExprPoly'. -/
def exprPolyUptoCard : Claim7 := { stood := { row := exprPolyUptoRow, standIns := [], harness := (true, "65d48c9c01f07ed7dae47d3056428cf524001af1a22367481de5b8c71dfeae38"), looks := true }, kinds := [], alts := [], laidByText := true, laidKinds := [.data, .data, .data, .data, .pinned], laidTests := true, laidLooks := .later }
def ExprPolyUptoCardSaid : Prop := Claim7.holds Tryz.pinned (.plain (OpenSpec.upto exprPolySpec)) exprPolyUptoCard

/-- THE SECOND FORM's CARD OF 'inequalitylaw04.ExprCongruent'. -/
def exprCongruentUptoCard : Claim7 := { stood := { row := exprCongruentUptoRow, standIns := [], harness := (true, "65d48c9c01f07ed7dae47d3056428cf524001af1a22367481de5b8c71dfeae38"), looks := true }, kinds := [], alts := [], laidByText := true, laidKinds := [.data, .data, .data, .data, .pinned], laidTests := true, laidLooks := .later }
def ExprCongruentUptoCardSaid : Prop := Claim7.holds Tryz.pinned (.plain (OpenSpec.upto exprCongruentSpec)) exprCongruentUptoCard

/-- THE SECOND FORM's CARD OF 'inequalitylaw04.ExprCongruence'. -/
def exprCongruenceUptoCard : Claim7 := { stood := { row := exprCongruenceUptoRow, standIns := [], harness := (true, "65d48c9c01f07ed7dae47d3056428cf524001af1a22367481de5b8c71dfeae38"), looks := true }, kinds := [], alts := [], laidByText := true, laidKinds := [.data, .data, .data, .data, .pinned], laidTests := true, laidLooks := .later }
def ExprCongruenceUptoCardSaid : Prop := Claim7.holds Tryz.pinned (.plain (OpenSpec.upto exprCongruenceSpec)) exprCongruenceUptoCard

/-- THE SECOND FORM's CARD OF 'inequalitylaw04.ExprRing'. -/
def exprRingUptoCard : Claim7 := { stood := { row := exprRingUptoRow, standIns := [], harness := (true, "65d48c9c01f07ed7dae47d3056428cf524001af1a22367481de5b8c71dfeae38"), looks := true }, kinds := [], alts := [], laidByText := true, laidKinds := [.data, .data, .data, .data, .pinned], laidTests := true, laidLooks := .later }
def ExprRingUptoCardSaid : Prop := Claim7.holds Tryz.pinned (.plain (OpenSpec.upto exprRingSpec)) exprRingUptoCard
end Rows
end Go.Proofs.YtieblmbjldlaeaaGreatDoor

/-
  DERIVED. GIVEN WITH THE SEED: THE CARDS: each row of YtiohcpiloenmoaaGreatDoorRows.lean that lists a variable, with what it lists TIED to the program's text (the seventh form; the later family's looks); each row that meets fmt, with fmt's text TOLD by the authors' own Lean function (tested against real Go, not proved from fmt's source: count such statements apart). THE CARD IS WHAT COUNTS. Prove the row's statement (the work); the ties are given (YtiohcpiloenmoaaGreatDoorTie.lean); close each card by the builder's one call (the guide's Derived/Test/ToyasCard.lean, 'card_holds'). Laid BY PROGRAM, IN A SANDBOX (cutbox-door.mjs). By AI agents, Wed Nov 11 2026. No macro, syntax, notation, axiom, sorry.
-/
import Derived.Test.YtiohcpiloenmoaaGreatDoorRows
import GoSem.ClaimSeven
namespace Go.Proofs.YtiohcpiloenmoaaGreatDoor
namespace Rows

/-- THE TIED CARD OF 'inequalitylaw04.ExprKept'. -/
def exprKeptCard : Claim7 := { stood := { row := exprKeptRow, standIns := [], harness := (true, "3e7e2456721218e7a9c75591d3627612d273f3098508d2fdaa4109338deda54d"), looks := true }, kinds := [], alts := [], laidByText := true, laidKinds := [.data, .data, .data, .data, .pinned], laidTests := true, laidLooks := .later }
def ExprKeptCardSaid : Prop := Claim7.holds Tryz.pinned (.plain (OpenSpec.ofChange exprKeptSpec)) exprKeptCard

/-- THE SECOND FORM's CARD OF 'inequalitylaw04.ExprKept'. -/
def exprKeptUptoCard : Claim7 := { stood := { row := exprKeptUptoRow, standIns := [], harness := (true, "3e7e2456721218e7a9c75591d3627612d273f3098508d2fdaa4109338deda54d"), looks := true }, kinds := [], alts := [], laidByText := true, laidKinds := [.data, .data, .data, .data, .pinned], laidTests := true, laidLooks := .later }
def ExprKeptUptoCardSaid : Prop := Claim7.holds Tryz.pinned (.plain (OpenSpec.upto exprKeptSpec)) exprKeptUptoCard
end Rows
end Go.Proofs.YtiohcpiloenmoaaGreatDoor

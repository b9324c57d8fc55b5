/-
  DERIVED. GIVEN WITH THE SEED: THE CARDS: each row of YtdccpmlhflpeaaaGreatDoorRows.lean that lists a variable, with what it lists TIED to the program's text (the seventh form; the later family's looks); each row that meets fmt, with fmt's text TOLD by the authors' own Lean function (tested against real Go, not proved from fmt's source: count such statements apart). THE CARD IS WHAT COUNTS. Prove the row's statement (the work); the ties are given (YtdccpmlhflpeaaaGreatDoorTie.lean); close each card by the builder's one call (the guide's Derived/Test/ToyasCard.lean, 'card_holds'). Laid BY PROGRAM, IN A SANDBOX (cutbox-door.mjs). By AI agents, Wed Nov 11 2026. No macro, syntax, notation, axiom, sorry.
-/
import Derived.Test.YtdccpmlhflpeaaaGreatDoorRows
import GoSem.ClaimSeven
namespace Go.Proofs.YtdccpmlhflpeaaaGreatDoor
namespace Rows

/-- THE TIED CARD OF 'inequalitytop.TopDerives'. -/
def topDerivesCard : Claim7 := { stood := { row := topDerivesRow, standIns := [], harness := (true, "bcab1574bf2a216714c3b52a45401e6cc53ced1ae280c51437cf539231921137"), looks := true }, kinds := [], alts := [], laidByText := true, laidKinds := [.data, .data, .data, .data, .pinned], laidTests := true, laidLooks := .later }
def TopDerivesCardSaid : Prop := Claim7.holds Tryz.pinned (.plain (OpenSpec.ofChange topDerivesSpec)) topDerivesCard

/-- THE SECOND FORM's CARD OF 'inequalitytop.TopDerives'. -/
def topDerivesUptoCard : Claim7 := { stood := { row := topDerivesUptoRow, standIns := [], harness := (true, "bcab1574bf2a216714c3b52a45401e6cc53ced1ae280c51437cf539231921137"), looks := true }, kinds := [], alts := [], laidByText := true, laidKinds := [.data, .data, .data, .data, .pinned], laidTests := true, laidLooks := .later }
def TopDerivesUptoCardSaid : Prop := Claim7.holds Tryz.pinned (.plain (OpenSpec.upto topDerivesSpec)) topDerivesUptoCard
end Rows
end Go.Proofs.YtdccpmlhflpeaaaGreatDoor

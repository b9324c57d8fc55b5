/-
  DERIVED. GIVEN WITH THE SEED: THE CARDS: each row of YtdemgbmndijkkaaGreatDoorRows.lean that lists a variable, with what it lists TIED to the program's text (the seventh form; the later family's looks); each row that meets fmt, with fmt's text TOLD by the authors' own Lean function (tested against real Go, not proved from fmt's source: count such statements apart). THE CARD IS WHAT COUNTS. Prove the row's statement (the work); the ties are given (YtdemgbmndijkkaaGreatDoorTie.lean); close each card by the builder's one call (the guide's Derived/Test/ToyasCard.lean, 'card_holds'). Laid BY PROGRAM, IN A SANDBOX (cutbox-door.mjs). By AI agents, Wed Nov 11 2026. No macro, syntax, notation, axiom, sorry.
-/
import Derived.Test.YtdemgbmndijkkaaGreatDoorRows
import GoSem.ClaimSeven
namespace Go.Proofs.YtdemgbmndijkkaaGreatDoor
namespace Rows

/-- THE TIED CARD OF 'inequalitytop.TopIdentities'. -/
def topIdentitiesCard : Claim7 := { stood := { row := topIdentitiesRow, standIns := [], harness := (true, "92d587e84aa8e54a5f6e1ebc5d4cdc87f4b8569cc4baffa1e0c9ee541ae2f573"), looks := false }, kinds := [], alts := [], laidByText := true, laidKinds := [.data], laidTests := true, laidLooks := .later }
def TopIdentitiesCardSaid : Prop := Claim7.holds Tryz.pinned (.plain (OpenSpec.ofChange topIdentitiesSpec)) topIdentitiesCard

/-- THE SECOND FORM's CARD OF 'inequalitytop.TopIdentities'. -/
def topIdentitiesUptoCard : Claim7 := { stood := { row := topIdentitiesUptoRow, standIns := [], harness := (true, "92d587e84aa8e54a5f6e1ebc5d4cdc87f4b8569cc4baffa1e0c9ee541ae2f573"), looks := false }, kinds := [], alts := [], laidByText := true, laidKinds := [.data], laidTests := true, laidLooks := .later }
def TopIdentitiesUptoCardSaid : Prop := Claim7.holds Tryz.pinned (.plain (OpenSpec.upto topIdentitiesSpec)) topIdentitiesUptoCard
end Rows
end Go.Proofs.YtdemgbmndijkkaaGreatDoor

/-
  DERIVED. GIVEN WITH THE SEED: THE CARDS: each row of YteblflmnhegmjaaDoorRows.lean that lists a variable, with what it lists TIED to the program's text (the seventh form; the later family's looks); each row that meets fmt, with fmt's text TOLD by the authors' own Lean function (tested against real Go, not proved from fmt's source: count such statements apart). THE CARD IS WHAT COUNTS. Prove the row's statement (the work); the ties are given (YteblflmnhegmjaaDoorTie.lean); close each card by the builder's one call (the guide's Derived/Test/ToyasCard.lean, 'card_holds'). Laid BY PROGRAM, IN A SANDBOX (cutbox-door.mjs). By AI agents, Wed Nov 11 2026. No macro, syntax, notation, axiom, sorry.
-/
import Derived.Test.YteblflmnhegmjaaDoorRows
import GoSem.ClaimSeven
namespace Go.Proofs.YteblflmnhegmjaaDoor
namespace Rows

/-- THE TIED CARD OF 'inequalitylaw01.NumberSigns'. -/
def numberSignsCard : Claim7 := { stood := { row := numberSignsRow, standIns := [], harness := (true, "1c2dab9a02f59ec301211374e30e522aadec3a47aba7f59432c1f6592a4d67f9"), looks := false }, kinds := [], alts := [], laidByText := true, laidKinds := [.data], laidTests := true, laidLooks := .later }
def NumberSignsCardSaid : Prop := Claim7.holds Tryd.pinned (.plain (OpenSpec.ofChange numberSignsSpec)) numberSignsCard

/-- THE TIED CARD OF 'inequalitylaw01.NumberRoots'. -/
def numberRootsCard : Claim7 := { stood := { row := numberRootsRow, standIns := [], harness := (true, "1c2dab9a02f59ec301211374e30e522aadec3a47aba7f59432c1f6592a4d67f9"), looks := false }, kinds := [], alts := [], laidByText := true, laidKinds := [.data], laidTests := true, laidLooks := .later }
def NumberRootsCardSaid : Prop := Claim7.holds Tryd.pinned (.plain (OpenSpec.ofChange numberRootsSpec)) numberRootsCard

/-- THE TIED CARD OF 'inequalitylaw01.NumberOrder'. -/
def numberOrderCard : Claim7 := { stood := { row := numberOrderRow, standIns := [], harness := (true, "1c2dab9a02f59ec301211374e30e522aadec3a47aba7f59432c1f6592a4d67f9"), looks := false }, kinds := [], alts := [], laidByText := true, laidKinds := [.data], laidTests := true, laidLooks := .later }
def NumberOrderCardSaid : Prop := Claim7.holds Tryd.pinned (.plain (OpenSpec.ofChange numberOrderSpec)) numberOrderCard

/-- THE TIED CARD OF 'inequalitylaw01.NumberGridRoots'. -/
def numberGridRootsCard : Claim7 := { stood := { row := numberGridRootsRow, standIns := [], harness := (true, "1c2dab9a02f59ec301211374e30e522aadec3a47aba7f59432c1f6592a4d67f9"), looks := false }, kinds := [], alts := [], laidByText := true, laidKinds := [.data], laidTests := true, laidLooks := .later }
def NumberGridRootsCardSaid : Prop := Claim7.holds Tryd.pinned (.plain (OpenSpec.ofChange numberGridRootsSpec)) numberGridRootsCard

/-- THE TIED CARD OF 'inequalitylaw01.NumberSteps'. -/
def numberStepsCard : Claim7 := { stood := { row := numberStepsRow, standIns := [], harness := (true, "1c2dab9a02f59ec301211374e30e522aadec3a47aba7f59432c1f6592a4d67f9"), looks := false }, kinds := [], alts := [], laidByText := true, laidKinds := [.data], laidTests := true, laidLooks := .later }
def NumberStepsCardSaid : Prop := Claim7.holds Tryd.pinned (.plain (OpenSpec.ofChange numberStepsSpec)) numberStepsCard

/-- THE TIED CARD OF 'inequalitylaw01.NumberDenotes'. -/
def numberDenotesCard : Claim7 := { stood := { row := numberDenotesRow, standIns := [], harness := (true, "1c2dab9a02f59ec301211374e30e522aadec3a47aba7f59432c1f6592a4d67f9"), looks := false }, kinds := [], alts := [], laidByText := true, laidKinds := [.data], laidTests := true, laidLooks := .later }
def NumberDenotesCardSaid : Prop := Claim7.holds Tryd.pinned (.plain (OpenSpec.ofChange numberDenotesSpec)) numberDenotesCard

/-- THE TIED CARD OF 'inequalitylaw01.NumberSimplest'. -/
def numberSimplestCard : Claim7 := { stood := { row := numberSimplestRow, standIns := [], harness := (true, "1c2dab9a02f59ec301211374e30e522aadec3a47aba7f59432c1f6592a4d67f9"), looks := false }, kinds := [], alts := [], laidByText := true, laidKinds := [.data], laidTests := true, laidLooks := .later }
def NumberSimplestCardSaid : Prop := Claim7.holds Tryd.pinned (.plain (OpenSpec.ofChange numberSimplestSpec)) numberSimplestCard

/-- THE TIED CARD OF 'inequalitylaw01.NumberBetween'. -/
def numberBetweenCard : Claim7 := { stood := { row := numberBetweenRow, standIns := [], harness := (true, "1c2dab9a02f59ec301211374e30e522aadec3a47aba7f59432c1f6592a4d67f9"), looks := false }, kinds := [], alts := [], laidByText := true, laidKinds := [.data], laidTests := true, laidLooks := .later }
def NumberBetweenCardSaid : Prop := Claim7.holds Tryd.pinned (.plain (OpenSpec.ofChange numberBetweenSpec)) numberBetweenCard

/-- THE TIED CARD OF 'inequalitylaw01.NumberTexts'. -/
def numberTextsCard : Claim7 := { stood := { row := numberTextsRow, standIns := [], harness := (true, "1c2dab9a02f59ec301211374e30e522aadec3a47aba7f59432c1f6592a4d67f9"), looks := false }, kinds := [], alts := [], laidByText := true, laidKinds := [.data], laidTests := true, laidLooks := .later }
def NumberTextsCardSaid : Prop := Claim7.holds Tryd.pinned (.plain (OpenSpec.ofChange numberTextsSpec)) numberTextsCard

/-- THE TIED CARD OF 'inequalitylaw01.NumberDecimals'. -/
def numberDecimalsCard : Claim7 := { stood := { row := numberDecimalsRow, standIns := [], harness := (true, "1c2dab9a02f59ec301211374e30e522aadec3a47aba7f59432c1f6592a4d67f9"), looks := false }, kinds := [], alts := [], laidByText := true, laidKinds := [.data], laidTests := true, laidLooks := .later }
def NumberDecimalsCardSaid : Prop := Claim7.holds Tryd.pinned (.plain (OpenSpec.ofChange numberDecimalsSpec)) numberDecimalsCard

/-- THE TIED CARD OF 'inequalitylaw01.NumberPowers'. -/
def numberPowersCard : Claim7 := { stood := { row := numberPowersRow, standIns := [], harness := (true, "1c2dab9a02f59ec301211374e30e522aadec3a47aba7f59432c1f6592a4d67f9"), looks := false }, kinds := [], alts := [], laidByText := true, laidKinds := [.data], laidTests := true, laidLooks := .later }
def NumberPowersCardSaid : Prop := Claim7.holds Tryd.pinned (.plain (OpenSpec.ofChange numberPowersSpec)) numberPowersCard

/-- THE SECOND FORM's CARD OF 'inequalitylaw01.NumberSigns'. -/
def numberSignsUptoCard : Claim7 := { stood := { row := numberSignsUptoRow, standIns := [], harness := (true, "1c2dab9a02f59ec301211374e30e522aadec3a47aba7f59432c1f6592a4d67f9"), looks := false }, kinds := [], alts := [], laidByText := true, laidKinds := [.data], laidTests := true, laidLooks := .later }
def NumberSignsUptoCardSaid : Prop := Claim7.holds Tryd.pinned (.plain (OpenSpec.upto numberSignsSpec)) numberSignsUptoCard

/-- THE SECOND FORM's CARD OF 'inequalitylaw01.NumberRoots'. -/
def numberRootsUptoCard : Claim7 := { stood := { row := numberRootsUptoRow, standIns := [], harness := (true, "1c2dab9a02f59ec301211374e30e522aadec3a47aba7f59432c1f6592a4d67f9"), looks := false }, kinds := [], alts := [], laidByText := true, laidKinds := [.data], laidTests := true, laidLooks := .later }
def NumberRootsUptoCardSaid : Prop := Claim7.holds Tryd.pinned (.plain (OpenSpec.upto numberRootsSpec)) numberRootsUptoCard

/-- THE SECOND FORM's CARD OF 'inequalitylaw01.NumberOrder'. -/
def numberOrderUptoCard : Claim7 := { stood := { row := numberOrderUptoRow, standIns := [], harness := (true, "1c2dab9a02f59ec301211374e30e522aadec3a47aba7f59432c1f6592a4d67f9"), looks := false }, kinds := [], alts := [], laidByText := true, laidKinds := [.data], laidTests := true, laidLooks := .later }
def NumberOrderUptoCardSaid : Prop := Claim7.holds Tryd.pinned (.plain (OpenSpec.upto numberOrderSpec)) numberOrderUptoCard

/-- THE SECOND FORM's CARD OF 'inequalitylaw01.NumberGridRoots'. -/
def numberGridRootsUptoCard : Claim7 := { stood := { row := numberGridRootsUptoRow, standIns := [], harness := (true, "1c2dab9a02f59ec301211374e30e522aadec3a47aba7f59432c1f6592a4d67f9"), looks := false }, kinds := [], alts := [], laidByText := true, laidKinds := [.data], laidTests := true, laidLooks := .later }
def NumberGridRootsUptoCardSaid : Prop := Claim7.holds Tryd.pinned (.plain (OpenSpec.upto numberGridRootsSpec)) numberGridRootsUptoCard

/-- THE SECOND FORM's CARD OF 'inequalitylaw01.NumberSteps'. -/
def numberStepsUptoCard : Claim7 := { stood := { row := numberStepsUptoRow, standIns := [], harness := (true, "1c2dab9a02f59ec301211374e30e522aadec3a47aba7f59432c1f6592a4d67f9"), looks := false }, kinds := [], alts := [], laidByText := true, laidKinds := [.data], laidTests := true, laidLooks := .later }
def NumberStepsUptoCardSaid : Prop := Claim7.holds Tryd.pinned (.plain (OpenSpec.upto numberStepsSpec)) numberStepsUptoCard

/-- THE SECOND FORM's CARD OF 'inequalitylaw01.NumberDenotes'. -/
def numberDenotesUptoCard : Claim7 := { stood := { row := numberDenotesUptoRow, standIns := [], harness := (true, "1c2dab9a02f59ec301211374e30e522aadec3a47aba7f59432c1f6592a4d67f9"), looks := false }, kinds := [], alts := [], laidByText := true, laidKinds := [.data], laidTests := true, laidLooks := .later }
def NumberDenotesUptoCardSaid : Prop := Claim7.holds Tryd.pinned (.plain (OpenSpec.upto numberDenotesSpec)) numberDenotesUptoCard

/-- THE SECOND FORM's CARD OF 'inequalitylaw01.NumberSimplest'. -/
def numberSimplestUptoCard : Claim7 := { stood := { row := numberSimplestUptoRow, standIns := [], harness := (true, "1c2dab9a02f59ec301211374e30e522aadec3a47aba7f59432c1f6592a4d67f9"), looks := false }, kinds := [], alts := [], laidByText := true, laidKinds := [.data], laidTests := true, laidLooks := .later }
def NumberSimplestUptoCardSaid : Prop := Claim7.holds Tryd.pinned (.plain (OpenSpec.upto numberSimplestSpec)) numberSimplestUptoCard

/-- THE SECOND FORM's CARD OF 'inequalitylaw01.NumberBetween'. -/
def numberBetweenUptoCard : Claim7 := { stood := { row := numberBetweenUptoRow, standIns := [], harness := (true, "1c2dab9a02f59ec301211374e30e522aadec3a47aba7f59432c1f6592a4d67f9"), looks := false }, kinds := [], alts := [], laidByText := true, laidKinds := [.data], laidTests := true, laidLooks := .later }
def NumberBetweenUptoCardSaid : Prop := Claim7.holds Tryd.pinned (.plain (OpenSpec.upto numberBetweenSpec)) numberBetweenUptoCard

/-- THE SECOND FORM's CARD OF 'inequalitylaw01.NumberTexts'. -/
def numberTextsUptoCard : Claim7 := { stood := { row := numberTextsUptoRow, standIns := [], harness := (true, "1c2dab9a02f59ec301211374e30e522aadec3a47aba7f59432c1f6592a4d67f9"), looks := false }, kinds := [], alts := [], laidByText := true, laidKinds := [.data], laidTests := true, laidLooks := .later }
def NumberTextsUptoCardSaid : Prop := Claim7.holds Tryd.pinned (.plain (OpenSpec.upto numberTextsSpec)) numberTextsUptoCard

/-- THE SECOND FORM's CARD OF 'inequalitylaw01.NumberDecimals'. -/
def numberDecimalsUptoCard : Claim7 := { stood := { row := numberDecimalsUptoRow, standIns := [], harness := (true, "1c2dab9a02f59ec301211374e30e522aadec3a47aba7f59432c1f6592a4d67f9"), looks := false }, kinds := [], alts := [], laidByText := true, laidKinds := [.data], laidTests := true, laidLooks := .later }
def NumberDecimalsUptoCardSaid : Prop := Claim7.holds Tryd.pinned (.plain (OpenSpec.upto numberDecimalsSpec)) numberDecimalsUptoCard

/-- THE SECOND FORM's CARD OF 'inequalitylaw01.NumberPowers'. -/
def numberPowersUptoCard : Claim7 := { stood := { row := numberPowersUptoRow, standIns := [], harness := (true, "1c2dab9a02f59ec301211374e30e522aadec3a47aba7f59432c1f6592a4d67f9"), looks := false }, kinds := [], alts := [], laidByText := true, laidKinds := [.data], laidTests := true, laidLooks := .later }
def NumberPowersUptoCardSaid : Prop := Claim7.holds Tryd.pinned (.plain (OpenSpec.upto numberPowersSpec)) numberPowersUptoCard
end Rows
end Go.Proofs.YteblflmnhegmjaaDoor

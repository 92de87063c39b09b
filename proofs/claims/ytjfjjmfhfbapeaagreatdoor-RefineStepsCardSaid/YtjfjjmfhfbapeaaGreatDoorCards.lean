/-
  DERIVED. GIVEN WITH THE SEED: THE CARDS: each row of YtjfjjmfhfbapeaaGreatDoorRows.lean that lists a variable, with what it lists TIED to the program's text (the seventh form; the later family's looks); each row that meets fmt, with fmt's text TOLD by the authors' own Lean function (tested against real Go, not proved from fmt's source: count such statements apart). THE CARD IS WHAT COUNTS. Prove the row's statement (the work); the ties are given (YtjfjjmfhfbapeaaGreatDoorTie.lean); close each card by the builder's one call (the guide's Derived/Test/ToyasCard.lean, 'card_holds'). Laid BY PROGRAM, IN A SANDBOX (cutbox-door.mjs). By AI agents, Wed Nov 11 2026. No macro, syntax, notation, axiom, sorry.
-/
import Derived.Test.YtjfjjmfhfbapeaaGreatDoorRows
import GoSem.ClaimSeven
namespace Go.Proofs.YtjfjjmfhfbapeaaGreatDoor
namespace Rows

/-- THE TIED CARD OF 'sparselaw28.SolveGeneral'. -/
def solveGeneralCard : Claim7 := { stood := { row := solveGeneralRow, standIns := [], harness := (true, "b92b06eba65dc3d2880439fc1d0909eafd78e7613dbefb735d71cd252be6ba6f"), looks := false }, kinds := [], alts := [], laidByText := true, laidKinds := [.data], laidTests := true, laidLooks := .later }
def SolveGeneralCardSaid : Prop := Claim7.holds Tryz.pinned (.plain (OpenSpec.ofChange solveGeneralSpec)) solveGeneralCard

/-- THE TIED CARD OF 'sparselaw36.KrylovExact'. -/
def krylovExactCard : Claim7 := { stood := { row := krylovExactRow, standIns := [], harness := (true, "b92b06eba65dc3d2880439fc1d0909eafd78e7613dbefb735d71cd252be6ba6f"), looks := false }, kinds := [], alts := [], laidByText := true, laidKinds := [.data], laidTests := true, laidLooks := .later }
def KrylovExactCardSaid : Prop := Claim7.holds Tryz.pinned (.plain (OpenSpec.ofChange krylovExactSpec)) krylovExactCard

/-- THE TIED CARD OF 'sparselaw35.RefineRefines'. -/
def refineRefinesCard : Claim7 := { stood := { row := refineRefinesRow, standIns := [], harness := (true, "b92b06eba65dc3d2880439fc1d0909eafd78e7613dbefb735d71cd252be6ba6f"), looks := false }, kinds := [], alts := [], laidByText := true, laidKinds := [.data], laidTests := true, laidLooks := .later }
def RefineRefinesCardSaid : Prop := Claim7.holds Tryz.pinned (.plain (OpenSpec.ofChange refineRefinesSpec)) refineRefinesCard

/-- THE TIED CARD OF 'sparselaw35.RefineHalves'. -/
def refineHalvesCard : Claim7 := { stood := { row := refineHalvesRow, standIns := [], harness := (true, "b92b06eba65dc3d2880439fc1d0909eafd78e7613dbefb735d71cd252be6ba6f"), looks := false }, kinds := [], alts := [], laidByText := true, laidKinds := [.data], laidTests := true, laidLooks := .later }
def RefineHalvesCardSaid : Prop := Claim7.holds Tryz.pinned (.plain (OpenSpec.ofChange refineHalvesSpec)) refineHalvesCard

/-- THE TIED CARD OF 'sparselaw35.RefineSteps'. -/
def refineStepsCard : Claim7 := { stood := { row := refineStepsRow, standIns := [], harness := (true, "b92b06eba65dc3d2880439fc1d0909eafd78e7613dbefb735d71cd252be6ba6f"), looks := false }, kinds := [], alts := [], laidByText := true, laidKinds := [.data], laidTests := true, laidLooks := .later }
def RefineStepsCardSaid : Prop := Claim7.holds Tryz.pinned (.plain (OpenSpec.ofChange refineStepsSpec)) refineStepsCard

/-- THE TIED CARD OF 'sparselaw35.RefineDoubled'. -/
def refineDoubledCard : Claim7 := { stood := { row := refineDoubledRow, standIns := [], harness := (true, "b92b06eba65dc3d2880439fc1d0909eafd78e7613dbefb735d71cd252be6ba6f"), looks := false }, kinds := [], alts := [], laidByText := true, laidKinds := [.data], laidTests := true, laidLooks := .later }
def RefineDoubledCardSaid : Prop := Claim7.holds Tryz.pinned (.plain (OpenSpec.ofChange refineDoubledSpec)) refineDoubledCard

/-- THE TIED CARD OF 'sparselaw35.RefineRefuses'. -/
def refineRefusesCard : Claim7 := { stood := { row := refineRefusesRow, standIns := [], harness := (true, "b92b06eba65dc3d2880439fc1d0909eafd78e7613dbefb735d71cd252be6ba6f"), looks := false }, kinds := [], alts := [], laidByText := true, laidKinds := [.data], laidTests := true, laidLooks := .later }
def RefineRefusesCardSaid : Prop := Claim7.holds Tryz.pinned (.plain (OpenSpec.ofChange refineRefusesSpec)) refineRefusesCard

/-- THE TIED CARD OF 'sparselaw35.RefinePairs'. -/
def refinePairsCard : Claim7 := { stood := { row := refinePairsRow, standIns := [], harness := (true, "b92b06eba65dc3d2880439fc1d0909eafd78e7613dbefb735d71cd252be6ba6f"), looks := false }, kinds := [], alts := [], laidByText := true, laidKinds := [.data], laidTests := true, laidLooks := .later }
def RefinePairsCardSaid : Prop := Claim7.holds Tryz.pinned (.plain (OpenSpec.ofChange refinePairsSpec)) refinePairsCard

/-- THE TIED CARD OF 'sparselaw35.RefineResidual'. -/
def refineResidualCard : Claim7 := { stood := { row := refineResidualRow, standIns := [], harness := (true, "b92b06eba65dc3d2880439fc1d0909eafd78e7613dbefb735d71cd252be6ba6f"), looks := false }, kinds := [], alts := [], laidByText := true, laidKinds := [.data], laidTests := true, laidLooks := .later }
def RefineResidualCardSaid : Prop := Claim7.holds Tryz.pinned (.plain (OpenSpec.ofChange refineResidualSpec)) refineResidualCard

/-- THE SECOND FORM's CARD OF 'sparselaw28.SolveGeneral'. -/
def solveGeneralUptoCard : Claim7 := { stood := { row := solveGeneralUptoRow, standIns := [], harness := (true, "b92b06eba65dc3d2880439fc1d0909eafd78e7613dbefb735d71cd252be6ba6f"), looks := false }, kinds := [], alts := [], laidByText := true, laidKinds := [.data], laidTests := true, laidLooks := .later }
def SolveGeneralUptoCardSaid : Prop := Claim7.holds Tryz.pinned (.plain (OpenSpec.upto solveGeneralSpec)) solveGeneralUptoCard

/-- THE SECOND FORM's CARD OF 'sparselaw36.KrylovExact'. -/
def krylovExactUptoCard : Claim7 := { stood := { row := krylovExactUptoRow, standIns := [], harness := (true, "b92b06eba65dc3d2880439fc1d0909eafd78e7613dbefb735d71cd252be6ba6f"), looks := false }, kinds := [], alts := [], laidByText := true, laidKinds := [.data], laidTests := true, laidLooks := .later }
def KrylovExactUptoCardSaid : Prop := Claim7.holds Tryz.pinned (.plain (OpenSpec.upto krylovExactSpec)) krylovExactUptoCard

/-- THE SECOND FORM's CARD OF 'sparselaw35.RefineRefines'. -/
def refineRefinesUptoCard : Claim7 := { stood := { row := refineRefinesUptoRow, standIns := [], harness := (true, "b92b06eba65dc3d2880439fc1d0909eafd78e7613dbefb735d71cd252be6ba6f"), looks := false }, kinds := [], alts := [], laidByText := true, laidKinds := [.data], laidTests := true, laidLooks := .later }
def RefineRefinesUptoCardSaid : Prop := Claim7.holds Tryz.pinned (.plain (OpenSpec.upto refineRefinesSpec)) refineRefinesUptoCard

/-- THE SECOND FORM's CARD OF 'sparselaw35.RefineHalves'. -/
def refineHalvesUptoCard : Claim7 := { stood := { row := refineHalvesUptoRow, standIns := [], harness := (true, "b92b06eba65dc3d2880439fc1d0909eafd78e7613dbefb735d71cd252be6ba6f"), looks := false }, kinds := [], alts := [], laidByText := true, laidKinds := [.data], laidTests := true, laidLooks := .later }
def RefineHalvesUptoCardSaid : Prop := Claim7.holds Tryz.pinned (.plain (OpenSpec.upto refineHalvesSpec)) refineHalvesUptoCard

/-- THE SECOND FORM's CARD OF 'sparselaw35.RefineSteps'. -/
def refineStepsUptoCard : Claim7 := { stood := { row := refineStepsUptoRow, standIns := [], harness := (true, "b92b06eba65dc3d2880439fc1d0909eafd78e7613dbefb735d71cd252be6ba6f"), looks := false }, kinds := [], alts := [], laidByText := true, laidKinds := [.data], laidTests := true, laidLooks := .later }
def RefineStepsUptoCardSaid : Prop := Claim7.holds Tryz.pinned (.plain (OpenSpec.upto refineStepsSpec)) refineStepsUptoCard

/-- THE SECOND FORM's CARD OF 'sparselaw35.RefineDoubled'. -/
def refineDoubledUptoCard : Claim7 := { stood := { row := refineDoubledUptoRow, standIns := [], harness := (true, "b92b06eba65dc3d2880439fc1d0909eafd78e7613dbefb735d71cd252be6ba6f"), looks := false }, kinds := [], alts := [], laidByText := true, laidKinds := [.data], laidTests := true, laidLooks := .later }
def RefineDoubledUptoCardSaid : Prop := Claim7.holds Tryz.pinned (.plain (OpenSpec.upto refineDoubledSpec)) refineDoubledUptoCard

/-- THE SECOND FORM's CARD OF 'sparselaw35.RefineRefuses'. -/
def refineRefusesUptoCard : Claim7 := { stood := { row := refineRefusesUptoRow, standIns := [], harness := (true, "b92b06eba65dc3d2880439fc1d0909eafd78e7613dbefb735d71cd252be6ba6f"), looks := false }, kinds := [], alts := [], laidByText := true, laidKinds := [.data], laidTests := true, laidLooks := .later }
def RefineRefusesUptoCardSaid : Prop := Claim7.holds Tryz.pinned (.plain (OpenSpec.upto refineRefusesSpec)) refineRefusesUptoCard

/-- THE SECOND FORM's CARD OF 'sparselaw35.RefinePairs'. -/
def refinePairsUptoCard : Claim7 := { stood := { row := refinePairsUptoRow, standIns := [], harness := (true, "b92b06eba65dc3d2880439fc1d0909eafd78e7613dbefb735d71cd252be6ba6f"), looks := false }, kinds := [], alts := [], laidByText := true, laidKinds := [.data], laidTests := true, laidLooks := .later }
def RefinePairsUptoCardSaid : Prop := Claim7.holds Tryz.pinned (.plain (OpenSpec.upto refinePairsSpec)) refinePairsUptoCard

/-- THE SECOND FORM's CARD OF 'sparselaw35.RefineResidual'. -/
def refineResidualUptoCard : Claim7 := { stood := { row := refineResidualUptoRow, standIns := [], harness := (true, "b92b06eba65dc3d2880439fc1d0909eafd78e7613dbefb735d71cd252be6ba6f"), looks := false }, kinds := [], alts := [], laidByText := true, laidKinds := [.data], laidTests := true, laidLooks := .later }
def RefineResidualUptoCardSaid : Prop := Claim7.holds Tryz.pinned (.plain (OpenSpec.upto refineResidualSpec)) refineResidualUptoCard
end Rows
end Go.Proofs.YtjfjjmfhfbapeaaGreatDoor

/-
  DERIVED. GIVEN WITH THE SEED: THE CARDS: each row of YtfmojhhokfkdaaaGreatDoorRows.lean that lists a variable, with what it lists TIED to the program's text (the seventh form; the later family's looks); each row that meets fmt, with fmt's text TOLD by the authors' own Lean function (tested against real Go, not proved from fmt's source: count such statements apart). THE CARD IS WHAT COUNTS. Prove the row's statement (the work); the ties are given (YtfmojhhokfkdaaaGreatDoorTie.lean); close each card by the builder's one call (the guide's Derived/Test/ToyasCard.lean, 'card_holds'). Laid BY PROGRAM, IN A SANDBOX (cutbox-door.mjs). By AI agents, Wed Nov 11 2026. No macro, syntax, notation, axiom, sorry.
-/
import Derived.Test.YtfmojhhokfkdaaaGreatDoorRows
import GoSem.ClaimSeven
namespace Go.Proofs.YtfmojhhokfkdaaaGreatDoor
namespace Rows

/-- THE TIED CARD OF 'sparselaw35.RefineHalves'. -/
def refineHalvesCard : Claim7 := { stood := { row := refineHalvesRow, standIns := [], harness := (true, "a2740fb67fdf1770b87b446d3cf87e00c3ed12e7a272b0be716aadfd10a83fed"), looks := false }, kinds := [], alts := [], laidByText := true, laidKinds := [.data], laidTests := true, laidLooks := .later }
def RefineHalvesCardSaid : Prop := Claim7.holds Tryz.pinned (.plain (OpenSpec.ofChange refineHalvesSpec)) refineHalvesCard

/-- THE TIED CARD OF 'sparselaw35.RefineResidual'. -/
def refineResidualCard : Claim7 := { stood := { row := refineResidualRow, standIns := [], harness := (true, "a2740fb67fdf1770b87b446d3cf87e00c3ed12e7a272b0be716aadfd10a83fed"), looks := false }, kinds := [], alts := [], laidByText := true, laidKinds := [.data], laidTests := true, laidLooks := .later }
def RefineResidualCardSaid : Prop := Claim7.holds Tryz.pinned (.plain (OpenSpec.ofChange refineResidualSpec)) refineResidualCard

/-- THE TIED CARD OF 'sparselaw35.RefinePairs'. -/
def refinePairsCard : Claim7 := { stood := { row := refinePairsRow, standIns := [], harness := (true, "a2740fb67fdf1770b87b446d3cf87e00c3ed12e7a272b0be716aadfd10a83fed"), looks := false }, kinds := [], alts := [], laidByText := true, laidKinds := [.data], laidTests := true, laidLooks := .later }
def RefinePairsCardSaid : Prop := Claim7.holds Tryz.pinned (.plain (OpenSpec.ofChange refinePairsSpec)) refinePairsCard

/-- THE TIED CARD OF 'sparselaw35.RefineDoubled'. -/
def refineDoubledCard : Claim7 := { stood := { row := refineDoubledRow, standIns := [], harness := (true, "a2740fb67fdf1770b87b446d3cf87e00c3ed12e7a272b0be716aadfd10a83fed"), looks := false }, kinds := [], alts := [], laidByText := true, laidKinds := [.data], laidTests := true, laidLooks := .later }
def RefineDoubledCardSaid : Prop := Claim7.holds Tryz.pinned (.plain (OpenSpec.ofChange refineDoubledSpec)) refineDoubledCard

/-- THE TIED CARD OF 'sparselaw35.RefineRefuses'. -/
def refineRefusesCard : Claim7 := { stood := { row := refineRefusesRow, standIns := [], harness := (true, "a2740fb67fdf1770b87b446d3cf87e00c3ed12e7a272b0be716aadfd10a83fed"), looks := false }, kinds := [], alts := [], laidByText := true, laidKinds := [.data], laidTests := true, laidLooks := .later }
def RefineRefusesCardSaid : Prop := Claim7.holds Tryz.pinned (.plain (OpenSpec.ofChange refineRefusesSpec)) refineRefusesCard

/-- THE TIED CARD OF 'sparselaw36.KrylovExact'. -/
def krylovExactCard : Claim7 := { stood := { row := krylovExactRow, standIns := [], harness := (true, "a2740fb67fdf1770b87b446d3cf87e00c3ed12e7a272b0be716aadfd10a83fed"), looks := false }, kinds := [], alts := [], laidByText := true, laidKinds := [.data], laidTests := true, laidLooks := .later }
def KrylovExactCardSaid : Prop := Claim7.holds Tryz.pinned (.plain (OpenSpec.ofChange krylovExactSpec)) krylovExactCard

/-- THE TIED CARD OF 'sparselaw43.CondScales'. -/
def condScalesCard : Claim7 := { stood := { row := condScalesRow, standIns := [], harness := (true, "a2740fb67fdf1770b87b446d3cf87e00c3ed12e7a272b0be716aadfd10a83fed"), looks := false }, kinds := [], alts := [], laidByText := true, laidKinds := [.data], laidTests := true, laidLooks := .later }
def CondScalesCardSaid : Prop := Claim7.holds Tryz.pinned (.plain (OpenSpec.ofChange condScalesSpec)) condScalesCard

/-- THE TIED CARD OF 'sparselaw43.CondBounds'. -/
def condBoundsCard : Claim7 := { stood := { row := condBoundsRow, standIns := [], harness := (true, "a2740fb67fdf1770b87b446d3cf87e00c3ed12e7a272b0be716aadfd10a83fed"), looks := false }, kinds := [], alts := [], laidByText := true, laidKinds := [.data], laidTests := true, laidLooks := .later }
def CondBoundsCardSaid : Prop := Claim7.holds Tryz.pinned (.plain (OpenSpec.ofChange condBoundsSpec)) condBoundsCard

/-- THE TIED CARD OF 'sparselaw43.CondSound'. -/
def condSoundCard : Claim7 := { stood := { row := condSoundRow, standIns := [], harness := (true, "a2740fb67fdf1770b87b446d3cf87e00c3ed12e7a272b0be716aadfd10a83fed"), looks := false }, kinds := [], alts := [], laidByText := true, laidKinds := [.data], laidTests := true, laidLooks := .later }
def CondSoundCardSaid : Prop := Claim7.holds Tryz.pinned (.plain (OpenSpec.ofChange condSoundSpec)) condSoundCard

/-- THE TIED CARD OF 'sparselaw43.CondLower'. -/
def condLowerCard : Claim7 := { stood := { row := condLowerRow, standIns := [], harness := (true, "a2740fb67fdf1770b87b446d3cf87e00c3ed12e7a272b0be716aadfd10a83fed"), looks := false }, kinds := [], alts := [], laidByText := true, laidKinds := [.data], laidTests := true, laidLooks := .later }
def CondLowerCardSaid : Prop := Claim7.holds Tryz.pinned (.plain (OpenSpec.ofChange condLowerSpec)) condLowerCard

/-- THE TIED CARD OF 'sparselaw43.CondBelow'. -/
def condBelowCard : Claim7 := { stood := { row := condBelowRow, standIns := [], harness := (true, "a2740fb67fdf1770b87b446d3cf87e00c3ed12e7a272b0be716aadfd10a83fed"), looks := false }, kinds := [], alts := [], laidByText := true, laidKinds := [.data], laidTests := true, laidLooks := .later }
def CondBelowCardSaid : Prop := Claim7.holds Tryz.pinned (.plain (OpenSpec.ofChange condBelowSpec)) condBelowCard

/-- THE TIED CARD OF 'sparselaw43.CondRefuses'. -/
def condRefusesCard : Claim7 := { stood := { row := condRefusesRow, standIns := [], harness := (true, "a2740fb67fdf1770b87b446d3cf87e00c3ed12e7a272b0be716aadfd10a83fed"), looks := false }, kinds := [], alts := [], laidByText := true, laidKinds := [.data], laidTests := true, laidLooks := .later }
def CondRefusesCardSaid : Prop := Claim7.holds Tryz.pinned (.plain (OpenSpec.ofChange condRefusesSpec)) condRefusesCard

/-- THE SECOND FORM's CARD OF 'sparselaw35.RefineHalves'. -/
def refineHalvesUptoCard : Claim7 := { stood := { row := refineHalvesUptoRow, standIns := [], harness := (true, "a2740fb67fdf1770b87b446d3cf87e00c3ed12e7a272b0be716aadfd10a83fed"), looks := false }, kinds := [], alts := [], laidByText := true, laidKinds := [.data], laidTests := true, laidLooks := .later }
def RefineHalvesUptoCardSaid : Prop := Claim7.holds Tryz.pinned (.plain (OpenSpec.upto refineHalvesSpec)) refineHalvesUptoCard

/-- THE SECOND FORM's CARD OF 'sparselaw35.RefineResidual'. -/
def refineResidualUptoCard : Claim7 := { stood := { row := refineResidualUptoRow, standIns := [], harness := (true, "a2740fb67fdf1770b87b446d3cf87e00c3ed12e7a272b0be716aadfd10a83fed"), looks := false }, kinds := [], alts := [], laidByText := true, laidKinds := [.data], laidTests := true, laidLooks := .later }
def RefineResidualUptoCardSaid : Prop := Claim7.holds Tryz.pinned (.plain (OpenSpec.upto refineResidualSpec)) refineResidualUptoCard

/-- THE SECOND FORM's CARD OF 'sparselaw35.RefinePairs'. -/
def refinePairsUptoCard : Claim7 := { stood := { row := refinePairsUptoRow, standIns := [], harness := (true, "a2740fb67fdf1770b87b446d3cf87e00c3ed12e7a272b0be716aadfd10a83fed"), looks := false }, kinds := [], alts := [], laidByText := true, laidKinds := [.data], laidTests := true, laidLooks := .later }
def RefinePairsUptoCardSaid : Prop := Claim7.holds Tryz.pinned (.plain (OpenSpec.upto refinePairsSpec)) refinePairsUptoCard

/-- THE SECOND FORM's CARD OF 'sparselaw35.RefineDoubled'. -/
def refineDoubledUptoCard : Claim7 := { stood := { row := refineDoubledUptoRow, standIns := [], harness := (true, "a2740fb67fdf1770b87b446d3cf87e00c3ed12e7a272b0be716aadfd10a83fed"), looks := false }, kinds := [], alts := [], laidByText := true, laidKinds := [.data], laidTests := true, laidLooks := .later }
def RefineDoubledUptoCardSaid : Prop := Claim7.holds Tryz.pinned (.plain (OpenSpec.upto refineDoubledSpec)) refineDoubledUptoCard

/-- THE SECOND FORM's CARD OF 'sparselaw35.RefineRefuses'. -/
def refineRefusesUptoCard : Claim7 := { stood := { row := refineRefusesUptoRow, standIns := [], harness := (true, "a2740fb67fdf1770b87b446d3cf87e00c3ed12e7a272b0be716aadfd10a83fed"), looks := false }, kinds := [], alts := [], laidByText := true, laidKinds := [.data], laidTests := true, laidLooks := .later }
def RefineRefusesUptoCardSaid : Prop := Claim7.holds Tryz.pinned (.plain (OpenSpec.upto refineRefusesSpec)) refineRefusesUptoCard

/-- THE SECOND FORM's CARD OF 'sparselaw36.KrylovExact'. -/
def krylovExactUptoCard : Claim7 := { stood := { row := krylovExactUptoRow, standIns := [], harness := (true, "a2740fb67fdf1770b87b446d3cf87e00c3ed12e7a272b0be716aadfd10a83fed"), looks := false }, kinds := [], alts := [], laidByText := true, laidKinds := [.data], laidTests := true, laidLooks := .later }
def KrylovExactUptoCardSaid : Prop := Claim7.holds Tryz.pinned (.plain (OpenSpec.upto krylovExactSpec)) krylovExactUptoCard

/-- THE SECOND FORM's CARD OF 'sparselaw43.CondScales'. -/
def condScalesUptoCard : Claim7 := { stood := { row := condScalesUptoRow, standIns := [], harness := (true, "a2740fb67fdf1770b87b446d3cf87e00c3ed12e7a272b0be716aadfd10a83fed"), looks := false }, kinds := [], alts := [], laidByText := true, laidKinds := [.data], laidTests := true, laidLooks := .later }
def CondScalesUptoCardSaid : Prop := Claim7.holds Tryz.pinned (.plain (OpenSpec.upto condScalesSpec)) condScalesUptoCard

/-- THE SECOND FORM's CARD OF 'sparselaw43.CondBounds'. -/
def condBoundsUptoCard : Claim7 := { stood := { row := condBoundsUptoRow, standIns := [], harness := (true, "a2740fb67fdf1770b87b446d3cf87e00c3ed12e7a272b0be716aadfd10a83fed"), looks := false }, kinds := [], alts := [], laidByText := true, laidKinds := [.data], laidTests := true, laidLooks := .later }
def CondBoundsUptoCardSaid : Prop := Claim7.holds Tryz.pinned (.plain (OpenSpec.upto condBoundsSpec)) condBoundsUptoCard

/-- THE SECOND FORM's CARD OF 'sparselaw43.CondSound'. -/
def condSoundUptoCard : Claim7 := { stood := { row := condSoundUptoRow, standIns := [], harness := (true, "a2740fb67fdf1770b87b446d3cf87e00c3ed12e7a272b0be716aadfd10a83fed"), looks := false }, kinds := [], alts := [], laidByText := true, laidKinds := [.data], laidTests := true, laidLooks := .later }
def CondSoundUptoCardSaid : Prop := Claim7.holds Tryz.pinned (.plain (OpenSpec.upto condSoundSpec)) condSoundUptoCard

/-- THE SECOND FORM's CARD OF 'sparselaw43.CondLower'. -/
def condLowerUptoCard : Claim7 := { stood := { row := condLowerUptoRow, standIns := [], harness := (true, "a2740fb67fdf1770b87b446d3cf87e00c3ed12e7a272b0be716aadfd10a83fed"), looks := false }, kinds := [], alts := [], laidByText := true, laidKinds := [.data], laidTests := true, laidLooks := .later }
def CondLowerUptoCardSaid : Prop := Claim7.holds Tryz.pinned (.plain (OpenSpec.upto condLowerSpec)) condLowerUptoCard

/-- THE SECOND FORM's CARD OF 'sparselaw43.CondBelow'. -/
def condBelowUptoCard : Claim7 := { stood := { row := condBelowUptoRow, standIns := [], harness := (true, "a2740fb67fdf1770b87b446d3cf87e00c3ed12e7a272b0be716aadfd10a83fed"), looks := false }, kinds := [], alts := [], laidByText := true, laidKinds := [.data], laidTests := true, laidLooks := .later }
def CondBelowUptoCardSaid : Prop := Claim7.holds Tryz.pinned (.plain (OpenSpec.upto condBelowSpec)) condBelowUptoCard

/-- THE SECOND FORM's CARD OF 'sparselaw43.CondRefuses'. -/
def condRefusesUptoCard : Claim7 := { stood := { row := condRefusesUptoRow, standIns := [], harness := (true, "a2740fb67fdf1770b87b446d3cf87e00c3ed12e7a272b0be716aadfd10a83fed"), looks := false }, kinds := [], alts := [], laidByText := true, laidKinds := [.data], laidTests := true, laidLooks := .later }
def CondRefusesUptoCardSaid : Prop := Claim7.holds Tryz.pinned (.plain (OpenSpec.upto condRefusesSpec)) condRefusesUptoCard
end Rows
end Go.Proofs.YtfmojhhokfkdaaaGreatDoor

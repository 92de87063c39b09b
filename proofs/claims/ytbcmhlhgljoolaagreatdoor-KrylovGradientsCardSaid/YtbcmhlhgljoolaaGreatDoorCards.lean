/-
  DERIVED. GIVEN WITH THE SEED: THE CARDS: each row of YtbcmhlhgljoolaaGreatDoorRows.lean that lists a variable, with what it lists TIED to the program's text (the seventh form; the later family's looks); each row that meets fmt, with fmt's text TOLD by the authors' own Lean function (tested against real Go, not proved from fmt's source: count such statements apart). THE CARD IS WHAT COUNTS. Prove the row's statement (the work); the ties are given (YtbcmhlhgljoolaaGreatDoorTie.lean); close each card by the builder's one call (the guide's Derived/Test/ToyasCard.lean, 'card_holds'). Laid BY PROGRAM, IN A SANDBOX (cutbox-door.mjs). By AI agents, Wed Nov 11 2026. No macro, syntax, notation, axiom, sorry.
-/
import Derived.Test.YtbcmhlhgljoolaaGreatDoorRows
import GoSem.ClaimSeven
namespace Go.Proofs.YtbcmhlhgljoolaaGreatDoor
namespace Rows

/-- THE TIED CARD OF 'sparselaw28.SolveReach'. -/
def solveReachCard : Claim7 := { stood := { row := solveReachRow, standIns := [], harness := (true, "1152ba08cf519ea60d813af4e373f6d249d3327580b00ea5080b605239196640"), looks := false }, kinds := [], alts := [], laidByText := true, laidKinds := [.data], laidTests := true, laidLooks := .later }
def SolveReachCardSaid : Prop := Claim7.holds Tryz.pinned (.plain (OpenSpec.ofChange solveReachSpec)) solveReachCard

/-- THE TIED CARD OF 'sparselaw28.SolveGeneral'. -/
def solveGeneralCard : Claim7 := { stood := { row := solveGeneralRow, standIns := [], harness := (true, "1152ba08cf519ea60d813af4e373f6d249d3327580b00ea5080b605239196640"), looks := false }, kinds := [], alts := [], laidByText := true, laidKinds := [.data], laidTests := true, laidLooks := .later }
def SolveGeneralCardSaid : Prop := Claim7.holds Tryz.pinned (.plain (OpenSpec.ofChange solveGeneralSpec)) solveGeneralCard

/-- THE TIED CARD OF 'sparselaw36.KrylovGradients'. -/
def krylovGradientsCard : Claim7 := { stood := { row := krylovGradientsRow, standIns := [], harness := (true, "1152ba08cf519ea60d813af4e373f6d249d3327580b00ea5080b605239196640"), looks := false }, kinds := [], alts := [], laidByText := true, laidKinds := [.data], laidTests := true, laidLooks := .later }
def KrylovGradientsCardSaid : Prop := Claim7.holds Tryz.pinned (.plain (OpenSpec.ofChange krylovGradientsSpec)) krylovGradientsCard

/-- THE TIED CARD OF 'sparselaw36.KrylovOthers'. -/
def krylovOthersCard : Claim7 := { stood := { row := krylovOthersRow, standIns := [], harness := (true, "1152ba08cf519ea60d813af4e373f6d249d3327580b00ea5080b605239196640"), looks := false }, kinds := [], alts := [], laidByText := true, laidKinds := [.data], laidTests := true, laidLooks := .later }
def KrylovOthersCardSaid : Prop := Claim7.holds Tryz.pinned (.plain (OpenSpec.ofChange krylovOthersSpec)) krylovOthersCard

/-- THE TIED CARD OF 'sparselaw36.KrylovRefuses'. -/
def krylovRefusesCard : Claim7 := { stood := { row := krylovRefusesRow, standIns := [], harness := (true, "1152ba08cf519ea60d813af4e373f6d249d3327580b00ea5080b605239196640"), looks := false }, kinds := [], alts := [], laidByText := true, laidKinds := [.data], laidTests := true, laidLooks := .later }
def KrylovRefusesCardSaid : Prop := Claim7.holds Tryz.pinned (.plain (OpenSpec.ofChange krylovRefusesSpec)) krylovRefusesCard

/-- THE TIED CARD OF 'sparselaw36.KrylovExact'. -/
def krylovExactCard : Claim7 := { stood := { row := krylovExactRow, standIns := [], harness := (true, "1152ba08cf519ea60d813af4e373f6d249d3327580b00ea5080b605239196640"), looks := false }, kinds := [], alts := [], laidByText := true, laidKinds := [.data], laidTests := true, laidLooks := .later }
def KrylovExactCardSaid : Prop := Claim7.holds Tryz.pinned (.plain (OpenSpec.ofChange krylovExactSpec)) krylovExactCard

/-- THE TIED CARD OF 'sparselaw36.KrylovSteps'. -/
def krylovStepsCard : Claim7 := { stood := { row := krylovStepsRow, standIns := [], harness := (true, "1152ba08cf519ea60d813af4e373f6d249d3327580b00ea5080b605239196640"), looks := false }, kinds := [], alts := [], laidByText := true, laidKinds := [.data], laidTests := true, laidLooks := .later }
def KrylovStepsCardSaid : Prop := Claim7.holds Tryz.pinned (.plain (OpenSpec.ofChange krylovStepsSpec)) krylovStepsCard

/-- THE TIED CARD OF 'sparselaw36.KrylovApplies'. -/
def krylovAppliesCard : Claim7 := { stood := { row := krylovAppliesRow, standIns := [], harness := (true, "1152ba08cf519ea60d813af4e373f6d249d3327580b00ea5080b605239196640"), looks := false }, kinds := [], alts := [], laidByText := true, laidKinds := [.data], laidTests := true, laidLooks := .later }
def KrylovAppliesCardSaid : Prop := Claim7.holds Tryz.pinned (.plain (OpenSpec.ofChange krylovAppliesSpec)) krylovAppliesCard

/-- THE SECOND FORM's CARD OF 'sparselaw28.SolveReach'. -/
def solveReachUptoCard : Claim7 := { stood := { row := solveReachUptoRow, standIns := [], harness := (true, "1152ba08cf519ea60d813af4e373f6d249d3327580b00ea5080b605239196640"), looks := false }, kinds := [], alts := [], laidByText := true, laidKinds := [.data], laidTests := true, laidLooks := .later }
def SolveReachUptoCardSaid : Prop := Claim7.holds Tryz.pinned (.plain (OpenSpec.upto solveReachSpec)) solveReachUptoCard

/-- THE SECOND FORM's CARD OF 'sparselaw28.SolveGeneral'. -/
def solveGeneralUptoCard : Claim7 := { stood := { row := solveGeneralUptoRow, standIns := [], harness := (true, "1152ba08cf519ea60d813af4e373f6d249d3327580b00ea5080b605239196640"), looks := false }, kinds := [], alts := [], laidByText := true, laidKinds := [.data], laidTests := true, laidLooks := .later }
def SolveGeneralUptoCardSaid : Prop := Claim7.holds Tryz.pinned (.plain (OpenSpec.upto solveGeneralSpec)) solveGeneralUptoCard

/-- THE SECOND FORM's CARD OF 'sparselaw36.KrylovGradients'. -/
def krylovGradientsUptoCard : Claim7 := { stood := { row := krylovGradientsUptoRow, standIns := [], harness := (true, "1152ba08cf519ea60d813af4e373f6d249d3327580b00ea5080b605239196640"), looks := false }, kinds := [], alts := [], laidByText := true, laidKinds := [.data], laidTests := true, laidLooks := .later }
def KrylovGradientsUptoCardSaid : Prop := Claim7.holds Tryz.pinned (.plain (OpenSpec.upto krylovGradientsSpec)) krylovGradientsUptoCard

/-- THE SECOND FORM's CARD OF 'sparselaw36.KrylovOthers'. -/
def krylovOthersUptoCard : Claim7 := { stood := { row := krylovOthersUptoRow, standIns := [], harness := (true, "1152ba08cf519ea60d813af4e373f6d249d3327580b00ea5080b605239196640"), looks := false }, kinds := [], alts := [], laidByText := true, laidKinds := [.data], laidTests := true, laidLooks := .later }
def KrylovOthersUptoCardSaid : Prop := Claim7.holds Tryz.pinned (.plain (OpenSpec.upto krylovOthersSpec)) krylovOthersUptoCard

/-- THE SECOND FORM's CARD OF 'sparselaw36.KrylovRefuses'. -/
def krylovRefusesUptoCard : Claim7 := { stood := { row := krylovRefusesUptoRow, standIns := [], harness := (true, "1152ba08cf519ea60d813af4e373f6d249d3327580b00ea5080b605239196640"), looks := false }, kinds := [], alts := [], laidByText := true, laidKinds := [.data], laidTests := true, laidLooks := .later }
def KrylovRefusesUptoCardSaid : Prop := Claim7.holds Tryz.pinned (.plain (OpenSpec.upto krylovRefusesSpec)) krylovRefusesUptoCard

/-- THE SECOND FORM's CARD OF 'sparselaw36.KrylovExact'. -/
def krylovExactUptoCard : Claim7 := { stood := { row := krylovExactUptoRow, standIns := [], harness := (true, "1152ba08cf519ea60d813af4e373f6d249d3327580b00ea5080b605239196640"), looks := false }, kinds := [], alts := [], laidByText := true, laidKinds := [.data], laidTests := true, laidLooks := .later }
def KrylovExactUptoCardSaid : Prop := Claim7.holds Tryz.pinned (.plain (OpenSpec.upto krylovExactSpec)) krylovExactUptoCard

/-- THE SECOND FORM's CARD OF 'sparselaw36.KrylovSteps'. -/
def krylovStepsUptoCard : Claim7 := { stood := { row := krylovStepsUptoRow, standIns := [], harness := (true, "1152ba08cf519ea60d813af4e373f6d249d3327580b00ea5080b605239196640"), looks := false }, kinds := [], alts := [], laidByText := true, laidKinds := [.data], laidTests := true, laidLooks := .later }
def KrylovStepsUptoCardSaid : Prop := Claim7.holds Tryz.pinned (.plain (OpenSpec.upto krylovStepsSpec)) krylovStepsUptoCard

/-- THE SECOND FORM's CARD OF 'sparselaw36.KrylovApplies'. -/
def krylovAppliesUptoCard : Claim7 := { stood := { row := krylovAppliesUptoRow, standIns := [], harness := (true, "1152ba08cf519ea60d813af4e373f6d249d3327580b00ea5080b605239196640"), looks := false }, kinds := [], alts := [], laidByText := true, laidKinds := [.data], laidTests := true, laidLooks := .later }
def KrylovAppliesUptoCardSaid : Prop := Claim7.holds Tryz.pinned (.plain (OpenSpec.upto krylovAppliesSpec)) krylovAppliesUptoCard
end Rows
end Go.Proofs.YtbcmhlhgljoolaaGreatDoor

/-
  DERIVED. GIVEN WITH THE SEED: THE CARDS: each row of YtjamnehcmaloeaaGreatDoorRows.lean that lists a variable, with what it lists TIED to the program's text (the seventh form; the later family's looks); each row that meets fmt, with fmt's text TOLD by the authors' own Lean function (tested against real Go, not proved from fmt's source: count such statements apart). THE CARD IS WHAT COUNTS. Prove the row's statement (the work); the ties are given (YtjamnehcmaloeaaGreatDoorTie.lean); close each card by the builder's one call (the guide's Derived/Test/ToyasCard.lean, 'card_holds'). Laid BY PROGRAM, IN A SANDBOX (cutbox-door.mjs). By AI agents, Wed Nov 11 2026. No macro, syntax, notation, axiom, sorry.
-/
import Derived.Test.YtjamnehcmaloeaaGreatDoorRows
import GoSem.ClaimSeven
namespace Go.Proofs.YtjamnehcmaloeaaGreatDoor
namespace Rows

/-- THE TIED CARD OF 'sparselaw28.SolveErrors'. -/
def solveErrorsCard : Claim7 := { stood := { row := solveErrorsRow, standIns := [], harness := (true, "464a4fd313f0180230b5c370bf121eef3086acb9d2b3de5492cb098bc9e9bc3a"), looks := false }, kinds := [], alts := [], laidByText := true, laidKinds := [.data], laidTests := true, laidLooks := .later }
def SolveErrorsCardSaid : Prop := Claim7.holds Tryz.pinned (.plain (OpenSpec.ofChange solveErrorsSpec)) solveErrorsCard

/-- THE TIED CARD OF 'sparselaw28.SolveExact'. -/
def solveExactCard : Claim7 := { stood := { row := solveExactRow, standIns := [], harness := (true, "464a4fd313f0180230b5c370bf121eef3086acb9d2b3de5492cb098bc9e9bc3a"), looks := false }, kinds := [], alts := [], laidByText := true, laidKinds := [.data], laidTests := true, laidLooks := .later }
def SolveExactCardSaid : Prop := Claim7.holds Tryz.pinned (.plain (OpenSpec.ofChange solveExactSpec)) solveExactCard

/-- THE TIED CARD OF 'sparselaw28.SolveTriangular'. -/
def solveTriangularCard : Claim7 := { stood := { row := solveTriangularRow, standIns := [], harness := (true, "464a4fd313f0180230b5c370bf121eef3086acb9d2b3de5492cb098bc9e9bc3a"), looks := false }, kinds := [], alts := [], laidByText := true, laidKinds := [.data], laidTests := true, laidLooks := .later }
def SolveTriangularCardSaid : Prop := Claim7.holds Tryz.pinned (.plain (OpenSpec.ofChange solveTriangularSpec)) solveTriangularCard

/-- THE TIED CARD OF 'sparselaw28.SolveDefinite'. -/
def solveDefiniteCard : Claim7 := { stood := { row := solveDefiniteRow, standIns := [], harness := (true, "464a4fd313f0180230b5c370bf121eef3086acb9d2b3de5492cb098bc9e9bc3a"), looks := false }, kinds := [], alts := [], laidByText := true, laidKinds := [.data], laidTests := true, laidLooks := .later }
def SolveDefiniteCardSaid : Prop := Claim7.holds Tryz.pinned (.plain (OpenSpec.ofChange solveDefiniteSpec)) solveDefiniteCard

/-- THE TIED CARD OF 'sparselaw28.SolveSparse'. -/
def solveSparseCard : Claim7 := { stood := { row := solveSparseRow, standIns := [], harness := (true, "464a4fd313f0180230b5c370bf121eef3086acb9d2b3de5492cb098bc9e9bc3a"), looks := false }, kinds := [], alts := [], laidByText := true, laidKinds := [.data], laidTests := true, laidLooks := .later }
def SolveSparseCardSaid : Prop := Claim7.holds Tryz.pinned (.plain (OpenSpec.ofChange solveSparseSpec)) solveSparseCard

/-- THE TIED CARD OF 'sparselaw28.SolveReach'. -/
def solveReachCard : Claim7 := { stood := { row := solveReachRow, standIns := [], harness := (true, "464a4fd313f0180230b5c370bf121eef3086acb9d2b3de5492cb098bc9e9bc3a"), looks := false }, kinds := [], alts := [], laidByText := true, laidKinds := [.data], laidTests := true, laidLooks := .later }
def SolveReachCardSaid : Prop := Claim7.holds Tryz.pinned (.plain (OpenSpec.ofChange solveReachSpec)) solveReachCard

/-- THE TIED CARD OF 'sparselaw28.SolveGeneral'. -/
def solveGeneralCard : Claim7 := { stood := { row := solveGeneralRow, standIns := [], harness := (true, "464a4fd313f0180230b5c370bf121eef3086acb9d2b3de5492cb098bc9e9bc3a"), looks := false }, kinds := [], alts := [], laidByText := true, laidKinds := [.data], laidTests := true, laidLooks := .later }
def SolveGeneralCardSaid : Prop := Claim7.holds Tryz.pinned (.plain (OpenSpec.ofChange solveGeneralSpec)) solveGeneralCard

/-- THE TIED CARD OF 'sparselaw28.SolveIndefinite'. -/
def solveIndefiniteCard : Claim7 := { stood := { row := solveIndefiniteRow, standIns := [], harness := (true, "464a4fd313f0180230b5c370bf121eef3086acb9d2b3de5492cb098bc9e9bc3a"), looks := false }, kinds := [], alts := [], laidByText := true, laidKinds := [.data], laidTests := true, laidLooks := .later }
def SolveIndefiniteCardSaid : Prop := Claim7.holds Tryz.pinned (.plain (OpenSpec.ofChange solveIndefiniteSpec)) solveIndefiniteCard

/-- THE SECOND FORM's CARD OF 'sparselaw28.SolveErrors'. -/
def solveErrorsUptoCard : Claim7 := { stood := { row := solveErrorsUptoRow, standIns := [], harness := (true, "464a4fd313f0180230b5c370bf121eef3086acb9d2b3de5492cb098bc9e9bc3a"), looks := false }, kinds := [], alts := [], laidByText := true, laidKinds := [.data], laidTests := true, laidLooks := .later }
def SolveErrorsUptoCardSaid : Prop := Claim7.holds Tryz.pinned (.plain (OpenSpec.upto solveErrorsSpec)) solveErrorsUptoCard

/-- THE SECOND FORM's CARD OF 'sparselaw28.SolveExact'. -/
def solveExactUptoCard : Claim7 := { stood := { row := solveExactUptoRow, standIns := [], harness := (true, "464a4fd313f0180230b5c370bf121eef3086acb9d2b3de5492cb098bc9e9bc3a"), looks := false }, kinds := [], alts := [], laidByText := true, laidKinds := [.data], laidTests := true, laidLooks := .later }
def SolveExactUptoCardSaid : Prop := Claim7.holds Tryz.pinned (.plain (OpenSpec.upto solveExactSpec)) solveExactUptoCard

/-- THE SECOND FORM's CARD OF 'sparselaw28.SolveTriangular'. -/
def solveTriangularUptoCard : Claim7 := { stood := { row := solveTriangularUptoRow, standIns := [], harness := (true, "464a4fd313f0180230b5c370bf121eef3086acb9d2b3de5492cb098bc9e9bc3a"), looks := false }, kinds := [], alts := [], laidByText := true, laidKinds := [.data], laidTests := true, laidLooks := .later }
def SolveTriangularUptoCardSaid : Prop := Claim7.holds Tryz.pinned (.plain (OpenSpec.upto solveTriangularSpec)) solveTriangularUptoCard

/-- THE SECOND FORM's CARD OF 'sparselaw28.SolveDefinite'. -/
def solveDefiniteUptoCard : Claim7 := { stood := { row := solveDefiniteUptoRow, standIns := [], harness := (true, "464a4fd313f0180230b5c370bf121eef3086acb9d2b3de5492cb098bc9e9bc3a"), looks := false }, kinds := [], alts := [], laidByText := true, laidKinds := [.data], laidTests := true, laidLooks := .later }
def SolveDefiniteUptoCardSaid : Prop := Claim7.holds Tryz.pinned (.plain (OpenSpec.upto solveDefiniteSpec)) solveDefiniteUptoCard

/-- THE SECOND FORM's CARD OF 'sparselaw28.SolveSparse'. -/
def solveSparseUptoCard : Claim7 := { stood := { row := solveSparseUptoRow, standIns := [], harness := (true, "464a4fd313f0180230b5c370bf121eef3086acb9d2b3de5492cb098bc9e9bc3a"), looks := false }, kinds := [], alts := [], laidByText := true, laidKinds := [.data], laidTests := true, laidLooks := .later }
def SolveSparseUptoCardSaid : Prop := Claim7.holds Tryz.pinned (.plain (OpenSpec.upto solveSparseSpec)) solveSparseUptoCard

/-- THE SECOND FORM's CARD OF 'sparselaw28.SolveReach'. -/
def solveReachUptoCard : Claim7 := { stood := { row := solveReachUptoRow, standIns := [], harness := (true, "464a4fd313f0180230b5c370bf121eef3086acb9d2b3de5492cb098bc9e9bc3a"), looks := false }, kinds := [], alts := [], laidByText := true, laidKinds := [.data], laidTests := true, laidLooks := .later }
def SolveReachUptoCardSaid : Prop := Claim7.holds Tryz.pinned (.plain (OpenSpec.upto solveReachSpec)) solveReachUptoCard

/-- THE SECOND FORM's CARD OF 'sparselaw28.SolveGeneral'. -/
def solveGeneralUptoCard : Claim7 := { stood := { row := solveGeneralUptoRow, standIns := [], harness := (true, "464a4fd313f0180230b5c370bf121eef3086acb9d2b3de5492cb098bc9e9bc3a"), looks := false }, kinds := [], alts := [], laidByText := true, laidKinds := [.data], laidTests := true, laidLooks := .later }
def SolveGeneralUptoCardSaid : Prop := Claim7.holds Tryz.pinned (.plain (OpenSpec.upto solveGeneralSpec)) solveGeneralUptoCard

/-- THE SECOND FORM's CARD OF 'sparselaw28.SolveIndefinite'. -/
def solveIndefiniteUptoCard : Claim7 := { stood := { row := solveIndefiniteUptoRow, standIns := [], harness := (true, "464a4fd313f0180230b5c370bf121eef3086acb9d2b3de5492cb098bc9e9bc3a"), looks := false }, kinds := [], alts := [], laidByText := true, laidKinds := [.data], laidTests := true, laidLooks := .later }
def SolveIndefiniteUptoCardSaid : Prop := Claim7.holds Tryz.pinned (.plain (OpenSpec.upto solveIndefiniteSpec)) solveIndefiniteUptoCard
end Rows
end Go.Proofs.YtjamnehcmaloeaaGreatDoor

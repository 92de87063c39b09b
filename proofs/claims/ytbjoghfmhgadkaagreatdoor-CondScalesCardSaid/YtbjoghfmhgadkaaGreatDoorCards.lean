/-
  DERIVED. GIVEN WITH THE SEED: THE CARDS: each row of YtbjoghfmhgadkaaGreatDoorRows.lean that lists a variable, with what it lists TIED to the program's text (the seventh form; the later family's looks); each row that meets fmt, with fmt's text TOLD by the authors' own Lean function (tested against real Go, not proved from fmt's source: count such statements apart). THE CARD IS WHAT COUNTS. Prove the row's statement (the work); the ties are given (YtbjoghfmhgadkaaGreatDoorTie.lean); close each card by the builder's one call (the guide's Derived/Test/ToyasCard.lean, 'card_holds'). Laid BY PROGRAM, IN A SANDBOX (cutbox-door.mjs). By AI agents, Wed Nov 11 2026. No macro, syntax, notation, axiom, sorry.
-/
import Derived.Test.YtbjoghfmhgadkaaGreatDoorRows
import GoSem.ClaimSeven
namespace Go.Proofs.YtbjoghfmhgadkaaGreatDoor
namespace Rows

/-- THE TIED CARD OF 'sparselaw43.CondSound'. -/
def condSoundCard : Claim7 := { stood := { row := condSoundRow, standIns := [], harness := (true, "4ea1ea1af5882540d6044f003e91dc42835ade560e3fe663dbddcd91269f8aa1"), looks := false }, kinds := [], alts := [], laidByText := true, laidKinds := [.data], laidTests := true, laidLooks := .later }
def CondSoundCardSaid : Prop := Claim7.holds Tryz.pinned (.plain (OpenSpec.ofChange condSoundSpec)) condSoundCard

/-- THE TIED CARD OF 'sparselaw43.CondScales'. -/
def condScalesCard : Claim7 := { stood := { row := condScalesRow, standIns := [], harness := (true, "4ea1ea1af5882540d6044f003e91dc42835ade560e3fe663dbddcd91269f8aa1"), looks := false }, kinds := [], alts := [], laidByText := true, laidKinds := [.data], laidTests := true, laidLooks := .later }
def CondScalesCardSaid : Prop := Claim7.holds Tryz.pinned (.plain (OpenSpec.ofChange condScalesSpec)) condScalesCard

/-- THE TIED CARD OF 'sparselaw43.CondBelow'. -/
def condBelowCard : Claim7 := { stood := { row := condBelowRow, standIns := [], harness := (true, "4ea1ea1af5882540d6044f003e91dc42835ade560e3fe663dbddcd91269f8aa1"), looks := false }, kinds := [], alts := [], laidByText := true, laidKinds := [.data], laidTests := true, laidLooks := .later }
def CondBelowCardSaid : Prop := Claim7.holds Tryz.pinned (.plain (OpenSpec.ofChange condBelowSpec)) condBelowCard

/-- THE TIED CARD OF 'sparselaw26.LuFactors'. -/
def luFactorsCard : Claim7 := { stood := { row := luFactorsRow, standIns := [], harness := (true, "4ea1ea1af5882540d6044f003e91dc42835ade560e3fe663dbddcd91269f8aa1"), looks := false }, kinds := [], alts := [], laidByText := true, laidKinds := [.data], laidTests := true, laidLooks := .later }
def LuFactorsCardSaid : Prop := Claim7.holds Tryz.pinned (.plain (OpenSpec.ofChange luFactorsSpec)) luFactorsCard

/-- THE TIED CARD OF 'sparselaw26.LuSingular'. -/
def luSingularCard : Claim7 := { stood := { row := luSingularRow, standIns := [], harness := (true, "4ea1ea1af5882540d6044f003e91dc42835ade560e3fe663dbddcd91269f8aa1"), looks := false }, kinds := [], alts := [], laidByText := true, laidKinds := [.data], laidTests := true, laidLooks := .later }
def LuSingularCardSaid : Prop := Claim7.holds Tryz.pinned (.plain (OpenSpec.ofChange luSingularSpec)) luSingularCard

/-- THE TIED CARD OF 'sparselaw26.LuTriangular'. -/
def luTriangularCard : Claim7 := { stood := { row := luTriangularRow, standIns := [], harness := (true, "4ea1ea1af5882540d6044f003e91dc42835ade560e3fe663dbddcd91269f8aa1"), looks := false }, kinds := [], alts := [], laidByText := true, laidKinds := [.data], laidTests := true, laidLooks := .later }
def LuTriangularCardSaid : Prop := Claim7.holds Tryz.pinned (.plain (OpenSpec.ofChange luTriangularSpec)) luTriangularCard

/-- THE TIED CARD OF 'sparselaw26.LuBounded'. -/
def luBoundedCard : Claim7 := { stood := { row := luBoundedRow, standIns := [], harness := (true, "4ea1ea1af5882540d6044f003e91dc42835ade560e3fe663dbddcd91269f8aa1"), looks := false }, kinds := [], alts := [], laidByText := true, laidKinds := [.data], laidTests := true, laidLooks := .later }
def LuBoundedCardSaid : Prop := Claim7.holds Tryz.pinned (.plain (OpenSpec.ofChange luBoundedSpec)) luBoundedCard

/-- THE TIED CARD OF 'sparselaw26.LuErrors'. -/
def luErrorsCard : Claim7 := { stood := { row := luErrorsRow, standIns := [], harness := (true, "4ea1ea1af5882540d6044f003e91dc42835ade560e3fe663dbddcd91269f8aa1"), looks := false }, kinds := [], alts := [], laidByText := true, laidKinds := [.data], laidTests := true, laidLooks := .later }
def LuErrorsCardSaid : Prop := Claim7.holds Tryz.pinned (.plain (OpenSpec.ofChange luErrorsSpec)) luErrorsCard

/-- THE TIED CARD OF 'sparselaw26.LuRefuses'. -/
def luRefusesCard : Claim7 := { stood := { row := luRefusesRow, standIns := [], harness := (true, "4ea1ea1af5882540d6044f003e91dc42835ade560e3fe663dbddcd91269f8aa1"), looks := false }, kinds := [], alts := [], laidByText := true, laidKinds := [.data], laidTests := true, laidLooks := .later }
def LuRefusesCardSaid : Prop := Claim7.holds Tryz.pinned (.plain (OpenSpec.ofChange luRefusesSpec)) luRefusesCard

/-- THE TIED CARD OF 'sparselaw26.LuReads'. -/
def luReadsCard : Claim7 := { stood := { row := luReadsRow, standIns := [], harness := (true, "4ea1ea1af5882540d6044f003e91dc42835ade560e3fe663dbddcd91269f8aa1"), looks := false }, kinds := [], alts := [], laidByText := true, laidKinds := [.data], laidTests := true, laidLooks := .later }
def LuReadsCardSaid : Prop := Claim7.holds Tryz.pinned (.plain (OpenSpec.ofChange luReadsSpec)) luReadsCard

/-- THE SECOND FORM's CARD OF 'sparselaw43.CondSound'. -/
def condSoundUptoCard : Claim7 := { stood := { row := condSoundUptoRow, standIns := [], harness := (true, "4ea1ea1af5882540d6044f003e91dc42835ade560e3fe663dbddcd91269f8aa1"), looks := false }, kinds := [], alts := [], laidByText := true, laidKinds := [.data], laidTests := true, laidLooks := .later }
def CondSoundUptoCardSaid : Prop := Claim7.holds Tryz.pinned (.plain (OpenSpec.upto condSoundSpec)) condSoundUptoCard

/-- THE SECOND FORM's CARD OF 'sparselaw43.CondScales'. -/
def condScalesUptoCard : Claim7 := { stood := { row := condScalesUptoRow, standIns := [], harness := (true, "4ea1ea1af5882540d6044f003e91dc42835ade560e3fe663dbddcd91269f8aa1"), looks := false }, kinds := [], alts := [], laidByText := true, laidKinds := [.data], laidTests := true, laidLooks := .later }
def CondScalesUptoCardSaid : Prop := Claim7.holds Tryz.pinned (.plain (OpenSpec.upto condScalesSpec)) condScalesUptoCard

/-- THE SECOND FORM's CARD OF 'sparselaw43.CondBelow'. -/
def condBelowUptoCard : Claim7 := { stood := { row := condBelowUptoRow, standIns := [], harness := (true, "4ea1ea1af5882540d6044f003e91dc42835ade560e3fe663dbddcd91269f8aa1"), looks := false }, kinds := [], alts := [], laidByText := true, laidKinds := [.data], laidTests := true, laidLooks := .later }
def CondBelowUptoCardSaid : Prop := Claim7.holds Tryz.pinned (.plain (OpenSpec.upto condBelowSpec)) condBelowUptoCard

/-- THE SECOND FORM's CARD OF 'sparselaw26.LuFactors'. -/
def luFactorsUptoCard : Claim7 := { stood := { row := luFactorsUptoRow, standIns := [], harness := (true, "4ea1ea1af5882540d6044f003e91dc42835ade560e3fe663dbddcd91269f8aa1"), looks := false }, kinds := [], alts := [], laidByText := true, laidKinds := [.data], laidTests := true, laidLooks := .later }
def LuFactorsUptoCardSaid : Prop := Claim7.holds Tryz.pinned (.plain (OpenSpec.upto luFactorsSpec)) luFactorsUptoCard

/-- THE SECOND FORM's CARD OF 'sparselaw26.LuSingular'. -/
def luSingularUptoCard : Claim7 := { stood := { row := luSingularUptoRow, standIns := [], harness := (true, "4ea1ea1af5882540d6044f003e91dc42835ade560e3fe663dbddcd91269f8aa1"), looks := false }, kinds := [], alts := [], laidByText := true, laidKinds := [.data], laidTests := true, laidLooks := .later }
def LuSingularUptoCardSaid : Prop := Claim7.holds Tryz.pinned (.plain (OpenSpec.upto luSingularSpec)) luSingularUptoCard

/-- THE SECOND FORM's CARD OF 'sparselaw26.LuTriangular'. -/
def luTriangularUptoCard : Claim7 := { stood := { row := luTriangularUptoRow, standIns := [], harness := (true, "4ea1ea1af5882540d6044f003e91dc42835ade560e3fe663dbddcd91269f8aa1"), looks := false }, kinds := [], alts := [], laidByText := true, laidKinds := [.data], laidTests := true, laidLooks := .later }
def LuTriangularUptoCardSaid : Prop := Claim7.holds Tryz.pinned (.plain (OpenSpec.upto luTriangularSpec)) luTriangularUptoCard

/-- THE SECOND FORM's CARD OF 'sparselaw26.LuBounded'. -/
def luBoundedUptoCard : Claim7 := { stood := { row := luBoundedUptoRow, standIns := [], harness := (true, "4ea1ea1af5882540d6044f003e91dc42835ade560e3fe663dbddcd91269f8aa1"), looks := false }, kinds := [], alts := [], laidByText := true, laidKinds := [.data], laidTests := true, laidLooks := .later }
def LuBoundedUptoCardSaid : Prop := Claim7.holds Tryz.pinned (.plain (OpenSpec.upto luBoundedSpec)) luBoundedUptoCard

/-- THE SECOND FORM's CARD OF 'sparselaw26.LuErrors'. -/
def luErrorsUptoCard : Claim7 := { stood := { row := luErrorsUptoRow, standIns := [], harness := (true, "4ea1ea1af5882540d6044f003e91dc42835ade560e3fe663dbddcd91269f8aa1"), looks := false }, kinds := [], alts := [], laidByText := true, laidKinds := [.data], laidTests := true, laidLooks := .later }
def LuErrorsUptoCardSaid : Prop := Claim7.holds Tryz.pinned (.plain (OpenSpec.upto luErrorsSpec)) luErrorsUptoCard

/-- THE SECOND FORM's CARD OF 'sparselaw26.LuRefuses'. -/
def luRefusesUptoCard : Claim7 := { stood := { row := luRefusesUptoRow, standIns := [], harness := (true, "4ea1ea1af5882540d6044f003e91dc42835ade560e3fe663dbddcd91269f8aa1"), looks := false }, kinds := [], alts := [], laidByText := true, laidKinds := [.data], laidTests := true, laidLooks := .later }
def LuRefusesUptoCardSaid : Prop := Claim7.holds Tryz.pinned (.plain (OpenSpec.upto luRefusesSpec)) luRefusesUptoCard

/-- THE SECOND FORM's CARD OF 'sparselaw26.LuReads'. -/
def luReadsUptoCard : Claim7 := { stood := { row := luReadsUptoRow, standIns := [], harness := (true, "4ea1ea1af5882540d6044f003e91dc42835ade560e3fe663dbddcd91269f8aa1"), looks := false }, kinds := [], alts := [], laidByText := true, laidKinds := [.data], laidTests := true, laidLooks := .later }
def LuReadsUptoCardSaid : Prop := Claim7.holds Tryz.pinned (.plain (OpenSpec.upto luReadsSpec)) luReadsUptoCard
end Rows
end Go.Proofs.YtbjoghfmhgadkaaGreatDoor

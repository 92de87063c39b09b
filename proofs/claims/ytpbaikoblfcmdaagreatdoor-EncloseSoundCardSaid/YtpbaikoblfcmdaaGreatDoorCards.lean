/-
  DERIVED. GIVEN WITH THE SEED: THE CARDS: each row of YtpbaikoblfcmdaaGreatDoorRows.lean that lists a variable, with what it lists TIED to the program's text (the seventh form; the later family's looks); each row that meets fmt, with fmt's text TOLD by the authors' own Lean function (tested against real Go, not proved from fmt's source: count such statements apart). THE CARD IS WHAT COUNTS. Prove the row's statement (the work); the ties are given (YtpbaikoblfcmdaaGreatDoorTie.lean); close each card by the builder's one call (the guide's Derived/Test/ToyasCard.lean, 'card_holds'). Laid BY PROGRAM, IN A SANDBOX (cutbox-door.mjs). By AI agents, Wed Nov 11 2026. No macro, syntax, notation, axiom, sorry.
-/
import Derived.Test.YtpbaikoblfcmdaaGreatDoorRows
import GoSem.ClaimSeven
namespace Go.Proofs.YtpbaikoblfcmdaaGreatDoor
namespace Rows

/-- THE TIED CARD OF 'sparselaw41.EncloseBeta'. -/
def encloseBetaCard : Claim7 := { stood := { row := encloseBetaRow, standIns := [], harness := (true, "60c4ae752ec399ada9ca079687d444fe5a4c87f8de564b43f68dc3af20c35bcc"), looks := false }, kinds := [], alts := [], laidByText := true, laidKinds := [.data], laidTests := true, laidLooks := .later }
def EncloseBetaCardSaid : Prop := Claim7.holds Tryz.pinned (.plain (OpenSpec.ofChange encloseBetaSpec)) encloseBetaCard

/-- THE TIED CARD OF 'sparselaw41.EncloseKrawczyk'. -/
def encloseKrawczykCard : Claim7 := { stood := { row := encloseKrawczykRow, standIns := [], harness := (true, "60c4ae752ec399ada9ca079687d444fe5a4c87f8de564b43f68dc3af20c35bcc"), looks := false }, kinds := [], alts := [], laidByText := true, laidKinds := [.data], laidTests := true, laidLooks := .later }
def EncloseKrawczykCardSaid : Prop := Claim7.holds Tryz.pinned (.plain (OpenSpec.ofChange encloseKrawczykSpec)) encloseKrawczykCard

/-- THE TIED CARD OF 'sparselaw41.EncloseSound'. -/
def encloseSoundCard : Claim7 := { stood := { row := encloseSoundRow, standIns := [], harness := (true, "60c4ae752ec399ada9ca079687d444fe5a4c87f8de564b43f68dc3af20c35bcc"), looks := false }, kinds := [], alts := [], laidByText := true, laidKinds := [.data], laidTests := true, laidLooks := .later }
def EncloseSoundCardSaid : Prop := Claim7.holds Tryz.pinned (.plain (OpenSpec.ofChange encloseSoundSpec)) encloseSoundCard

/-- THE TIED CARD OF 'sparselaw41.EncloseKrawczykSound'. -/
def encloseKrawczykSoundCard : Claim7 := { stood := { row := encloseKrawczykSoundRow, standIns := [], harness := (true, "60c4ae752ec399ada9ca079687d444fe5a4c87f8de564b43f68dc3af20c35bcc"), looks := false }, kinds := [], alts := [], laidByText := true, laidKinds := [.data], laidTests := true, laidLooks := .later }
def EncloseKrawczykSoundCardSaid : Prop := Claim7.holds Tryz.pinned (.plain (OpenSpec.ofChange encloseKrawczykSoundSpec)) encloseKrawczykSoundCard

/-- THE TIED CARD OF 'sparselaw28.SolveIndefinite'. -/
def solveIndefiniteCard : Claim7 := { stood := { row := solveIndefiniteRow, standIns := [], harness := (true, "60c4ae752ec399ada9ca079687d444fe5a4c87f8de564b43f68dc3af20c35bcc"), looks := false }, kinds := [], alts := [], laidByText := true, laidKinds := [.data], laidTests := true, laidLooks := .later }
def SolveIndefiniteCardSaid : Prop := Claim7.holds Tryz.pinned (.plain (OpenSpec.ofChange solveIndefiniteSpec)) solveIndefiniteCard

/-- THE TIED CARD OF 'sparselaw43.CondScales'. -/
def condScalesCard : Claim7 := { stood := { row := condScalesRow, standIns := [], harness := (true, "60c4ae752ec399ada9ca079687d444fe5a4c87f8de564b43f68dc3af20c35bcc"), looks := false }, kinds := [], alts := [], laidByText := true, laidKinds := [.data], laidTests := true, laidLooks := .later }
def CondScalesCardSaid : Prop := Claim7.holds Tryz.pinned (.plain (OpenSpec.ofChange condScalesSpec)) condScalesCard

/-- THE TIED CARD OF 'sparselaw43.CondSound'. -/
def condSoundCard : Claim7 := { stood := { row := condSoundRow, standIns := [], harness := (true, "60c4ae752ec399ada9ca079687d444fe5a4c87f8de564b43f68dc3af20c35bcc"), looks := false }, kinds := [], alts := [], laidByText := true, laidKinds := [.data], laidTests := true, laidLooks := .later }
def CondSoundCardSaid : Prop := Claim7.holds Tryz.pinned (.plain (OpenSpec.ofChange condSoundSpec)) condSoundCard

/-- THE TIED CARD OF 'sparselaw43.CondBelow'. -/
def condBelowCard : Claim7 := { stood := { row := condBelowRow, standIns := [], harness := (true, "60c4ae752ec399ada9ca079687d444fe5a4c87f8de564b43f68dc3af20c35bcc"), looks := false }, kinds := [], alts := [], laidByText := true, laidKinds := [.data], laidTests := true, laidLooks := .later }
def CondBelowCardSaid : Prop := Claim7.holds Tryz.pinned (.plain (OpenSpec.ofChange condBelowSpec)) condBelowCard

/-- THE SECOND FORM's CARD OF 'sparselaw41.EncloseBeta'. -/
def encloseBetaUptoCard : Claim7 := { stood := { row := encloseBetaUptoRow, standIns := [], harness := (true, "60c4ae752ec399ada9ca079687d444fe5a4c87f8de564b43f68dc3af20c35bcc"), looks := false }, kinds := [], alts := [], laidByText := true, laidKinds := [.data], laidTests := true, laidLooks := .later }
def EncloseBetaUptoCardSaid : Prop := Claim7.holds Tryz.pinned (.plain (OpenSpec.upto encloseBetaSpec)) encloseBetaUptoCard

/-- THE SECOND FORM's CARD OF 'sparselaw41.EncloseKrawczyk'. -/
def encloseKrawczykUptoCard : Claim7 := { stood := { row := encloseKrawczykUptoRow, standIns := [], harness := (true, "60c4ae752ec399ada9ca079687d444fe5a4c87f8de564b43f68dc3af20c35bcc"), looks := false }, kinds := [], alts := [], laidByText := true, laidKinds := [.data], laidTests := true, laidLooks := .later }
def EncloseKrawczykUptoCardSaid : Prop := Claim7.holds Tryz.pinned (.plain (OpenSpec.upto encloseKrawczykSpec)) encloseKrawczykUptoCard

/-- THE SECOND FORM's CARD OF 'sparselaw41.EncloseSound'. -/
def encloseSoundUptoCard : Claim7 := { stood := { row := encloseSoundUptoRow, standIns := [], harness := (true, "60c4ae752ec399ada9ca079687d444fe5a4c87f8de564b43f68dc3af20c35bcc"), looks := false }, kinds := [], alts := [], laidByText := true, laidKinds := [.data], laidTests := true, laidLooks := .later }
def EncloseSoundUptoCardSaid : Prop := Claim7.holds Tryz.pinned (.plain (OpenSpec.upto encloseSoundSpec)) encloseSoundUptoCard

/-- THE SECOND FORM's CARD OF 'sparselaw41.EncloseKrawczykSound'. -/
def encloseKrawczykSoundUptoCard : Claim7 := { stood := { row := encloseKrawczykSoundUptoRow, standIns := [], harness := (true, "60c4ae752ec399ada9ca079687d444fe5a4c87f8de564b43f68dc3af20c35bcc"), looks := false }, kinds := [], alts := [], laidByText := true, laidKinds := [.data], laidTests := true, laidLooks := .later }
def EncloseKrawczykSoundUptoCardSaid : Prop := Claim7.holds Tryz.pinned (.plain (OpenSpec.upto encloseKrawczykSoundSpec)) encloseKrawczykSoundUptoCard

/-- THE SECOND FORM's CARD OF 'sparselaw28.SolveIndefinite'. -/
def solveIndefiniteUptoCard : Claim7 := { stood := { row := solveIndefiniteUptoRow, standIns := [], harness := (true, "60c4ae752ec399ada9ca079687d444fe5a4c87f8de564b43f68dc3af20c35bcc"), looks := false }, kinds := [], alts := [], laidByText := true, laidKinds := [.data], laidTests := true, laidLooks := .later }
def SolveIndefiniteUptoCardSaid : Prop := Claim7.holds Tryz.pinned (.plain (OpenSpec.upto solveIndefiniteSpec)) solveIndefiniteUptoCard

/-- THE SECOND FORM's CARD OF 'sparselaw43.CondScales'. -/
def condScalesUptoCard : Claim7 := { stood := { row := condScalesUptoRow, standIns := [], harness := (true, "60c4ae752ec399ada9ca079687d444fe5a4c87f8de564b43f68dc3af20c35bcc"), looks := false }, kinds := [], alts := [], laidByText := true, laidKinds := [.data], laidTests := true, laidLooks := .later }
def CondScalesUptoCardSaid : Prop := Claim7.holds Tryz.pinned (.plain (OpenSpec.upto condScalesSpec)) condScalesUptoCard

/-- THE SECOND FORM's CARD OF 'sparselaw43.CondSound'. -/
def condSoundUptoCard : Claim7 := { stood := { row := condSoundUptoRow, standIns := [], harness := (true, "60c4ae752ec399ada9ca079687d444fe5a4c87f8de564b43f68dc3af20c35bcc"), looks := false }, kinds := [], alts := [], laidByText := true, laidKinds := [.data], laidTests := true, laidLooks := .later }
def CondSoundUptoCardSaid : Prop := Claim7.holds Tryz.pinned (.plain (OpenSpec.upto condSoundSpec)) condSoundUptoCard

/-- THE SECOND FORM's CARD OF 'sparselaw43.CondBelow'. -/
def condBelowUptoCard : Claim7 := { stood := { row := condBelowUptoRow, standIns := [], harness := (true, "60c4ae752ec399ada9ca079687d444fe5a4c87f8de564b43f68dc3af20c35bcc"), looks := false }, kinds := [], alts := [], laidByText := true, laidKinds := [.data], laidTests := true, laidLooks := .later }
def CondBelowUptoCardSaid : Prop := Claim7.holds Tryz.pinned (.plain (OpenSpec.upto condBelowSpec)) condBelowUptoCard
end Rows
end Go.Proofs.YtpbaikoblfcmdaaGreatDoor

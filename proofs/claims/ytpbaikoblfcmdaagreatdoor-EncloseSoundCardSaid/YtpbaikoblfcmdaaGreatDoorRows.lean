/-
  NARROWER THAN 'FOR EVERY INPUT', by the rows' own cells (each row's printed sentence says how): EncloseBeta: laid · EncloseKrawczyk: laid · EncloseSound: laid · EncloseKrawczykSound: laid · SolveIndefinite: laid · CondScales: laid · CondSound: laid · CondBelow: laid.
  DERIVED. THE GIVEN ROWS OF THIS SEAT. 8 by the template 'for every input the law returns true; each argument reads behind the call as it read before'; 0 by the template 'total and deterministic' (their statements: YtpbaikoblfcmdaaGreatDoorTotals.lean).
  GIVEN WITH THE SEED: the statements are not yours to turn. If you find one false, say at which input.
  Laid BY PROGRAM, IN A SANDBOX (cutbox-rows.mjs): the forced cells as the released guide's own fill.sh prints them over the translation 2bb3117a4852686f… (all of the seat's roots in one cut). By AI agents, Wed Nov 11 2026. No macro, syntax, notation, axiom, sorry.
-/
import Derived.Test.YtpbaikoblfcmdaaGreatDoorChecked
import GoSem.Claim
import GoSem.ClaimJoined
import GoSem.ClaimMapViews
import Derived.JoinedTies
import Derived.KernelRfl
namespace Go.Proofs.YtpbaikoblfcmdaaGreatDoor
/- THE CELL 'sum', in the pinned program and in every row, IS THE sha256 OF THE DUMP (.gsa) THAT YtpbaikoblfcmdaaGreatDoorProg.lean LOADS. Nothing in Lean hashes anything: it is a label: what it is worth is what the hold of that sum in a sandbox is worth. -/
noncomputable def Tryz.pinned : Pinned := { name := "ytpbaikoblfcmdaagreatdoor", sum := "2bb3117a4852686f5ebad1b159c0349a6cf1360da4911f7db01d037642f8d053", checked := Tryz.checked }
namespace Rows
def none {H : Type} : Left H := { results := [], args := [] }

/- WHAT THE LISTED PACKAGE-LEVEL VARIABLES READ AS WHEN THE CALL BEGINS. Each datum BY PROGRAM (the guide's laid-datum.mjs) off the statement by which the dump's own 'gosem.cut.vars' lays the variable. In a bare row this is a premise. The card (YtpbaikoblfcmdaaGreatDoorCards.lean) ties it to the program's text. -/
def laid_math_bits_deBruijn32tab {H : Type} : DataW H := .agg [.lit (.int .u8 0), .lit (.int .u8 1), .lit (.int .u8 28), .lit (.int .u8 2), .lit (.int .u8 29), .lit (.int .u8 14), .lit (.int .u8 24), .lit (.int .u8 3), .lit (.int .u8 30), .lit (.int .u8 22), .lit (.int .u8 20), .lit (.int .u8 15), .lit (.int .u8 25), .lit (.int .u8 17), .lit (.int .u8 4), .lit (.int .u8 8), .lit (.int .u8 31), .lit (.int .u8 27), .lit (.int .u8 13), .lit (.int .u8 23), .lit (.int .u8 21), .lit (.int .u8 19), .lit (.int .u8 16), .lit (.int .u8 7), .lit (.int .u8 26), .lit (.int .u8 12), .lit (.int .u8 18), .lit (.int .u8 6), .lit (.int .u8 11), .lit (.int .u8 5), .lit (.int .u8 10), .lit (.int .u8 9)]

/-- 'sparselaw41.EncloseBeta': WHATEVER THE INPUT: true; the input reads as it did. -/
def encloseBetaSpec : ChangeSpec := { name := "encloseBeta", fn := fun _ => fun
  | [d1, d2, d3, d4, d5, d6, d7] => { results := [.lit (.bool true)], args := [d1, d2, d3, d4, d5, d6, d7] }
  | _ => none }
def encloseBetaRow : OpenClaim := { program := "ytpbaikoblfcmdaagreatdoor", sum := "2bb3117a4852686f5ebad1b159c0349a6cf1360da4911f7db01d037642f8d053", func := "sparse/sparselaw41.EncloseBeta", spec := "encloseBeta", unfollowed := true, recurses := true, named := ["math/bits.deBruijn32tab"], apart := false, laid := [("math/bits.deBruijn32tab", laid_math_bits_deBruijn32tab)] }
def EncloseBetaSaid : Prop := encloseBetaRow.holds Tryz.pinned (OpenSpec.ofChange encloseBetaSpec)

/-- ITS FALSE NEIGHBOUR: 'it returns false'. Refute it at one input. -/
def encloseBetaWrong : ChangeSpec := { name := "encloseBeta", fn := fun _ => fun
  | [d1, d2, d3, d4, d5, d6, d7] => { results := [.lit (.bool false)], args := [d1, d2, d3, d4, d5, d6, d7] }
  | _ => none }
def EncloseBetaWrongFalsely : Prop := encloseBetaRow.holds Tryz.pinned (OpenSpec.ofChange encloseBetaWrong)

/-- 'sparselaw41.EncloseKrawczyk': WHATEVER THE INPUT: true; the input reads as it did. -/
def encloseKrawczykSpec : ChangeSpec := { name := "encloseKrawczyk", fn := fun _ => fun
  | [d1, d2, d3, d4, d5] => { results := [.lit (.bool true)], args := [d1, d2, d3, d4, d5] }
  | _ => none }
def encloseKrawczykRow : OpenClaim := { program := "ytpbaikoblfcmdaagreatdoor", sum := "2bb3117a4852686f5ebad1b159c0349a6cf1360da4911f7db01d037642f8d053", func := "sparse/sparselaw41.EncloseKrawczyk", spec := "encloseKrawczyk", unfollowed := true, recurses := true, named := ["math/bits.deBruijn32tab"], apart := false, laid := [("math/bits.deBruijn32tab", laid_math_bits_deBruijn32tab)] }
def EncloseKrawczykSaid : Prop := encloseKrawczykRow.holds Tryz.pinned (OpenSpec.ofChange encloseKrawczykSpec)

/-- ITS FALSE NEIGHBOUR: 'it returns false'. Refute it at one input. -/
def encloseKrawczykWrong : ChangeSpec := { name := "encloseKrawczyk", fn := fun _ => fun
  | [d1, d2, d3, d4, d5] => { results := [.lit (.bool false)], args := [d1, d2, d3, d4, d5] }
  | _ => none }
def EncloseKrawczykWrongFalsely : Prop := encloseKrawczykRow.holds Tryz.pinned (OpenSpec.ofChange encloseKrawczykWrong)

/-- 'sparselaw41.EncloseSound': WHATEVER THE INPUT: true; the input reads as it did. -/
def encloseSoundSpec : ChangeSpec := { name := "encloseSound", fn := fun _ => fun
  | [d1, d2, d3, d4, d5, d6] => { results := [.lit (.bool true)], args := [d1, d2, d3, d4, d5, d6] }
  | _ => none }
def encloseSoundRow : OpenClaim := { program := "ytpbaikoblfcmdaagreatdoor", sum := "2bb3117a4852686f5ebad1b159c0349a6cf1360da4911f7db01d037642f8d053", func := "sparse/sparselaw41.EncloseSound", spec := "encloseSound", unfollowed := true, recurses := true, named := ["math/bits.deBruijn32tab"], apart := false, laid := [("math/bits.deBruijn32tab", laid_math_bits_deBruijn32tab)] }
def EncloseSoundSaid : Prop := encloseSoundRow.holds Tryz.pinned (OpenSpec.ofChange encloseSoundSpec)

/-- ITS FALSE NEIGHBOUR: 'it returns false'. Refute it at one input. -/
def encloseSoundWrong : ChangeSpec := { name := "encloseSound", fn := fun _ => fun
  | [d1, d2, d3, d4, d5, d6] => { results := [.lit (.bool false)], args := [d1, d2, d3, d4, d5, d6] }
  | _ => none }
def EncloseSoundWrongFalsely : Prop := encloseSoundRow.holds Tryz.pinned (OpenSpec.ofChange encloseSoundWrong)

/-- 'sparselaw41.EncloseKrawczykSound': WHATEVER THE INPUT: true; the input reads as it did. -/
def encloseKrawczykSoundSpec : ChangeSpec := { name := "encloseKrawczykSound", fn := fun _ => fun
  | [d1, d2, d3, d4] => { results := [.lit (.bool true)], args := [d1, d2, d3, d4] }
  | _ => none }
def encloseKrawczykSoundRow : OpenClaim := { program := "ytpbaikoblfcmdaagreatdoor", sum := "2bb3117a4852686f5ebad1b159c0349a6cf1360da4911f7db01d037642f8d053", func := "sparse/sparselaw41.EncloseKrawczykSound", spec := "encloseKrawczykSound", unfollowed := true, recurses := true, named := ["math/bits.deBruijn32tab"], apart := false, laid := [("math/bits.deBruijn32tab", laid_math_bits_deBruijn32tab)] }
def EncloseKrawczykSoundSaid : Prop := encloseKrawczykSoundRow.holds Tryz.pinned (OpenSpec.ofChange encloseKrawczykSoundSpec)

/-- ITS FALSE NEIGHBOUR: 'it returns false'. Refute it at one input. -/
def encloseKrawczykSoundWrong : ChangeSpec := { name := "encloseKrawczykSound", fn := fun _ => fun
  | [d1, d2, d3, d4] => { results := [.lit (.bool false)], args := [d1, d2, d3, d4] }
  | _ => none }
def EncloseKrawczykSoundWrongFalsely : Prop := encloseKrawczykSoundRow.holds Tryz.pinned (OpenSpec.ofChange encloseKrawczykSoundWrong)

/-- 'sparselaw28.SolveIndefinite': WHATEVER THE INPUT: true; the input reads as it did. -/
def solveIndefiniteSpec : ChangeSpec := { name := "solveIndefinite", fn := fun _ => fun
  | [d1, d2, d3, d4, d5] => { results := [.lit (.bool true)], args := [d1, d2, d3, d4, d5] }
  | _ => none }
def solveIndefiniteRow : OpenClaim := { program := "ytpbaikoblfcmdaagreatdoor", sum := "2bb3117a4852686f5ebad1b159c0349a6cf1360da4911f7db01d037642f8d053", func := "sparse/sparselaw28.SolveIndefinite", spec := "solveIndefinite", unfollowed := true, recurses := true, named := ["math/bits.deBruijn32tab"], apart := false, laid := [("math/bits.deBruijn32tab", laid_math_bits_deBruijn32tab)] }
def SolveIndefiniteSaid : Prop := solveIndefiniteRow.holds Tryz.pinned (OpenSpec.ofChange solveIndefiniteSpec)

/-- ITS FALSE NEIGHBOUR: 'it returns false'. Refute it at one input. -/
def solveIndefiniteWrong : ChangeSpec := { name := "solveIndefinite", fn := fun _ => fun
  | [d1, d2, d3, d4, d5] => { results := [.lit (.bool false)], args := [d1, d2, d3, d4, d5] }
  | _ => none }
def SolveIndefiniteWrongFalsely : Prop := solveIndefiniteRow.holds Tryz.pinned (OpenSpec.ofChange solveIndefiniteWrong)

/-- 'sparselaw43.CondScales': WHATEVER THE INPUT: true; the input reads as it did. -/
def condScalesSpec : ChangeSpec := { name := "condScales", fn := fun _ => fun
  | [d1, d2, d3, d4, d5] => { results := [.lit (.bool true)], args := [d1, d2, d3, d4, d5] }
  | _ => none }
def condScalesRow : OpenClaim := { program := "ytpbaikoblfcmdaagreatdoor", sum := "2bb3117a4852686f5ebad1b159c0349a6cf1360da4911f7db01d037642f8d053", func := "sparse/sparselaw43.CondScales", spec := "condScales", unfollowed := true, recurses := true, named := ["math/bits.deBruijn32tab"], apart := false, laid := [("math/bits.deBruijn32tab", laid_math_bits_deBruijn32tab)] }
def CondScalesSaid : Prop := condScalesRow.holds Tryz.pinned (OpenSpec.ofChange condScalesSpec)

/-- ITS FALSE NEIGHBOUR: 'it returns false'. Refute it at one input. -/
def condScalesWrong : ChangeSpec := { name := "condScales", fn := fun _ => fun
  | [d1, d2, d3, d4, d5] => { results := [.lit (.bool false)], args := [d1, d2, d3, d4, d5] }
  | _ => none }
def CondScalesWrongFalsely : Prop := condScalesRow.holds Tryz.pinned (OpenSpec.ofChange condScalesWrong)

/-- 'sparselaw43.CondSound': WHATEVER THE INPUT: true; the input reads as it did. -/
def condSoundSpec : ChangeSpec := { name := "condSound", fn := fun _ => fun
  | [d1, d2, d3, d4, d5] => { results := [.lit (.bool true)], args := [d1, d2, d3, d4, d5] }
  | _ => none }
def condSoundRow : OpenClaim := { program := "ytpbaikoblfcmdaagreatdoor", sum := "2bb3117a4852686f5ebad1b159c0349a6cf1360da4911f7db01d037642f8d053", func := "sparse/sparselaw43.CondSound", spec := "condSound", unfollowed := true, recurses := true, named := ["math/bits.deBruijn32tab"], apart := false, laid := [("math/bits.deBruijn32tab", laid_math_bits_deBruijn32tab)] }
def CondSoundSaid : Prop := condSoundRow.holds Tryz.pinned (OpenSpec.ofChange condSoundSpec)

/-- ITS FALSE NEIGHBOUR: 'it returns false'. Refute it at one input. -/
def condSoundWrong : ChangeSpec := { name := "condSound", fn := fun _ => fun
  | [d1, d2, d3, d4, d5] => { results := [.lit (.bool false)], args := [d1, d2, d3, d4, d5] }
  | _ => none }
def CondSoundWrongFalsely : Prop := condSoundRow.holds Tryz.pinned (OpenSpec.ofChange condSoundWrong)

/-- 'sparselaw43.CondBelow': WHATEVER THE INPUT: true; the input reads as it did. -/
def condBelowSpec : ChangeSpec := { name := "condBelow", fn := fun _ => fun
  | [d1, d2, d3] => { results := [.lit (.bool true)], args := [d1, d2, d3] }
  | _ => none }
def condBelowRow : OpenClaim := { program := "ytpbaikoblfcmdaagreatdoor", sum := "2bb3117a4852686f5ebad1b159c0349a6cf1360da4911f7db01d037642f8d053", func := "sparse/sparselaw43.CondBelow", spec := "condBelow", unfollowed := true, recurses := true, named := ["math/bits.deBruijn32tab"], apart := false, laid := [("math/bits.deBruijn32tab", laid_math_bits_deBruijn32tab)] }
def CondBelowSaid : Prop := condBelowRow.holds Tryz.pinned (OpenSpec.ofChange condBelowSpec)

/-- ITS FALSE NEIGHBOUR: 'it returns false'. Refute it at one input. -/
def condBelowWrong : ChangeSpec := { name := "condBelow", fn := fun _ => fun
  | [d1, d2, d3] => { results := [.lit (.bool false)], args := [d1, d2, d3] }
  | _ => none }
def CondBelowWrongFalsely : Prop := condBelowRow.holds Tryz.pinned (OpenSpec.ofChange condBelowWrong)

/- THE SECOND FORM. 'bulk': how many values and letters a reading holds, each counted each time it is reached (what is shared counts as often as it is met; a slice's spare places count too). A statement '..UptoSaid' is the law's where the arguments, and the package variables that the reading takes, are together of bulk at most 1048576: NARROWER than '..Said'. Prove '..Said' where nothing that the law and all that it calls make is longer than what came in: it says more and counts as full. Else prove '..UptoSaid'. A law counts once. -/
mutual
def uptoBulk {H : Type} : DataW H → Nat
  | .lit (.string bytes) => bytes.length + 1
  | .lit _ => 1
  | .nil => 1
  | .ptr d => uptoBulk d + 1
  | .slice elems spare => uptoBulkAll elems + uptoBulkAll spare + 1
  | .agg parts => uptoBulkAll parts + 1
  | .iface _ d => uptoBulk d + 1
  | .map entries => uptoBulkEntries entries + 1
  | .held _ => 1
def uptoBulkAll {H : Type} : List (DataW H) → Nat
  | [] => 0
  | d :: r => uptoBulk d + uptoBulkAll r
def uptoBulkEntries {H : Type} : List (Lit × DataW H) → Nat
  | [] => 0
  | x :: r => uptoBulkEntry x + uptoBulkEntries r
def uptoBulkEntry {H : Type} : Lit × DataW H → Nat
  | (.string bytes, d) => bytes.length + uptoBulk d + 1
  | (_, d) => uptoBulk d + 1
 end
def uptoSmall : (H : Type) → List (DataW H) → Bool := fun _ ds => decide (uptoBulkAll ds ≤ 1048576)
def OpenSpec.upto (s : _root_.Go.ChangeSpec) : _root_.Go.OpenSpec := { _root_.Go.OpenSpec.ofChange s with cond := some uptoSmall }

/-- 'sparselaw41.EncloseBeta', WHERE WHAT IT READS IS OF BULK AT MOST 1048576: true; the input reads as it did. -/
def encloseBetaUptoRow : OpenClaim := { program := "ytpbaikoblfcmdaagreatdoor", sum := "2bb3117a4852686f5ebad1b159c0349a6cf1360da4911f7db01d037642f8d053", func := "sparse/sparselaw41.EncloseBeta", spec := "encloseBeta", unfollowed := true, recurses := true, named := ["math/bits.deBruijn32tab"], apart := false, laid := [("math/bits.deBruijn32tab", laid_math_bits_deBruijn32tab)], narrowed := true }
def EncloseBetaUptoSaid : Prop := encloseBetaUptoRow.holds Tryz.pinned (OpenSpec.upto encloseBetaSpec)

/-- 'sparselaw41.EncloseKrawczyk', WHERE WHAT IT READS IS OF BULK AT MOST 1048576: true; the input reads as it did. -/
def encloseKrawczykUptoRow : OpenClaim := { program := "ytpbaikoblfcmdaagreatdoor", sum := "2bb3117a4852686f5ebad1b159c0349a6cf1360da4911f7db01d037642f8d053", func := "sparse/sparselaw41.EncloseKrawczyk", spec := "encloseKrawczyk", unfollowed := true, recurses := true, named := ["math/bits.deBruijn32tab"], apart := false, laid := [("math/bits.deBruijn32tab", laid_math_bits_deBruijn32tab)], narrowed := true }
def EncloseKrawczykUptoSaid : Prop := encloseKrawczykUptoRow.holds Tryz.pinned (OpenSpec.upto encloseKrawczykSpec)

/-- 'sparselaw41.EncloseSound', WHERE WHAT IT READS IS OF BULK AT MOST 1048576: true; the input reads as it did. -/
def encloseSoundUptoRow : OpenClaim := { program := "ytpbaikoblfcmdaagreatdoor", sum := "2bb3117a4852686f5ebad1b159c0349a6cf1360da4911f7db01d037642f8d053", func := "sparse/sparselaw41.EncloseSound", spec := "encloseSound", unfollowed := true, recurses := true, named := ["math/bits.deBruijn32tab"], apart := false, laid := [("math/bits.deBruijn32tab", laid_math_bits_deBruijn32tab)], narrowed := true }
def EncloseSoundUptoSaid : Prop := encloseSoundUptoRow.holds Tryz.pinned (OpenSpec.upto encloseSoundSpec)

/-- 'sparselaw41.EncloseKrawczykSound', WHERE WHAT IT READS IS OF BULK AT MOST 1048576: true; the input reads as it did. -/
def encloseKrawczykSoundUptoRow : OpenClaim := { program := "ytpbaikoblfcmdaagreatdoor", sum := "2bb3117a4852686f5ebad1b159c0349a6cf1360da4911f7db01d037642f8d053", func := "sparse/sparselaw41.EncloseKrawczykSound", spec := "encloseKrawczykSound", unfollowed := true, recurses := true, named := ["math/bits.deBruijn32tab"], apart := false, laid := [("math/bits.deBruijn32tab", laid_math_bits_deBruijn32tab)], narrowed := true }
def EncloseKrawczykSoundUptoSaid : Prop := encloseKrawczykSoundUptoRow.holds Tryz.pinned (OpenSpec.upto encloseKrawczykSoundSpec)

/-- 'sparselaw28.SolveIndefinite', WHERE WHAT IT READS IS OF BULK AT MOST 1048576: true; the input reads as it did. -/
def solveIndefiniteUptoRow : OpenClaim := { program := "ytpbaikoblfcmdaagreatdoor", sum := "2bb3117a4852686f5ebad1b159c0349a6cf1360da4911f7db01d037642f8d053", func := "sparse/sparselaw28.SolveIndefinite", spec := "solveIndefinite", unfollowed := true, recurses := true, named := ["math/bits.deBruijn32tab"], apart := false, laid := [("math/bits.deBruijn32tab", laid_math_bits_deBruijn32tab)], narrowed := true }
def SolveIndefiniteUptoSaid : Prop := solveIndefiniteUptoRow.holds Tryz.pinned (OpenSpec.upto solveIndefiniteSpec)

/-- 'sparselaw43.CondScales', WHERE WHAT IT READS IS OF BULK AT MOST 1048576: true; the input reads as it did. -/
def condScalesUptoRow : OpenClaim := { program := "ytpbaikoblfcmdaagreatdoor", sum := "2bb3117a4852686f5ebad1b159c0349a6cf1360da4911f7db01d037642f8d053", func := "sparse/sparselaw43.CondScales", spec := "condScales", unfollowed := true, recurses := true, named := ["math/bits.deBruijn32tab"], apart := false, laid := [("math/bits.deBruijn32tab", laid_math_bits_deBruijn32tab)], narrowed := true }
def CondScalesUptoSaid : Prop := condScalesUptoRow.holds Tryz.pinned (OpenSpec.upto condScalesSpec)

/-- 'sparselaw43.CondSound', WHERE WHAT IT READS IS OF BULK AT MOST 1048576: true; the input reads as it did. -/
def condSoundUptoRow : OpenClaim := { program := "ytpbaikoblfcmdaagreatdoor", sum := "2bb3117a4852686f5ebad1b159c0349a6cf1360da4911f7db01d037642f8d053", func := "sparse/sparselaw43.CondSound", spec := "condSound", unfollowed := true, recurses := true, named := ["math/bits.deBruijn32tab"], apart := false, laid := [("math/bits.deBruijn32tab", laid_math_bits_deBruijn32tab)], narrowed := true }
def CondSoundUptoSaid : Prop := condSoundUptoRow.holds Tryz.pinned (OpenSpec.upto condSoundSpec)

/-- 'sparselaw43.CondBelow', WHERE WHAT IT READS IS OF BULK AT MOST 1048576: true; the input reads as it did. -/
def condBelowUptoRow : OpenClaim := { program := "ytpbaikoblfcmdaagreatdoor", sum := "2bb3117a4852686f5ebad1b159c0349a6cf1360da4911f7db01d037642f8d053", func := "sparse/sparselaw43.CondBelow", spec := "condBelow", unfollowed := true, recurses := true, named := ["math/bits.deBruijn32tab"], apart := false, laid := [("math/bits.deBruijn32tab", laid_math_bits_deBruijn32tab)], narrowed := true }
def CondBelowUptoSaid : Prop := condBelowUptoRow.holds Tryz.pinned (OpenSpec.upto condBelowSpec)

end Rows
end Go.Proofs.YtpbaikoblfcmdaaGreatDoor

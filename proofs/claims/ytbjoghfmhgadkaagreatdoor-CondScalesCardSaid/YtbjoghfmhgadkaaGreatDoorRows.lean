/-
  NARROWER THAN 'FOR EVERY INPUT', by the rows' own cells (each row's printed sentence says how): CondSound: laid · CondScales: laid · CondBelow: laid · LuFactors: laid · LuSingular: laid · LuTriangular: laid · LuBounded: laid · LuErrors: laid · LuRefuses: laid · LuReads: laid.
  DERIVED. THE GIVEN ROWS OF THIS SEAT. 10 by the template 'for every input the law returns true; each argument reads behind the call as it read before'; 0 by the template 'total and deterministic' (their statements: YtbjoghfmhgadkaaGreatDoorTotals.lean).
  GIVEN WITH THE SEED: the statements are not yours to turn. If you find one false, say at which input.
  Laid BY PROGRAM, IN A SANDBOX (cutbox-rows.mjs): the forced cells as the released guide's own fill.sh prints them over the translation 290060db7f035689… (all of the seat's roots in one cut). By AI agents, Wed Nov 11 2026. No macro, syntax, notation, axiom, sorry.
-/
import Derived.Test.YtbjoghfmhgadkaaGreatDoorChecked
import GoSem.Claim
import GoSem.ClaimJoined
import GoSem.ClaimMapViews
import Derived.JoinedTies
import Derived.KernelRfl
namespace Go.Proofs.YtbjoghfmhgadkaaGreatDoor
/- THE CELL 'sum', in the pinned program and in every row, IS THE sha256 OF THE DUMP (.gsa) THAT YtbjoghfmhgadkaaGreatDoorProg.lean LOADS. Nothing in Lean hashes anything: it is a label: what it is worth is what the hold of that sum in a sandbox is worth. -/
noncomputable def Tryz.pinned : Pinned := { name := "ytbjoghfmhgadkaagreatdoor", sum := "290060db7f035689133e4f77ef69002e888bc4bfbc6e589e624276ea7a9db913", checked := Tryz.checked }
namespace Rows
def none {H : Type} : Left H := { results := [], args := [] }

/- WHAT THE LISTED PACKAGE-LEVEL VARIABLES READ AS WHEN THE CALL BEGINS. Each datum BY PROGRAM (the guide's laid-datum.mjs) off the statement by which the dump's own 'gosem.cut.vars' lays the variable. In a bare row this is a premise. The card (YtbjoghfmhgadkaaGreatDoorCards.lean) ties it to the program's text. -/
def laid_math_bits_deBruijn32tab {H : Type} : DataW H := .agg [.lit (.int .u8 0), .lit (.int .u8 1), .lit (.int .u8 28), .lit (.int .u8 2), .lit (.int .u8 29), .lit (.int .u8 14), .lit (.int .u8 24), .lit (.int .u8 3), .lit (.int .u8 30), .lit (.int .u8 22), .lit (.int .u8 20), .lit (.int .u8 15), .lit (.int .u8 25), .lit (.int .u8 17), .lit (.int .u8 4), .lit (.int .u8 8), .lit (.int .u8 31), .lit (.int .u8 27), .lit (.int .u8 13), .lit (.int .u8 23), .lit (.int .u8 21), .lit (.int .u8 19), .lit (.int .u8 16), .lit (.int .u8 7), .lit (.int .u8 26), .lit (.int .u8 12), .lit (.int .u8 18), .lit (.int .u8 6), .lit (.int .u8 11), .lit (.int .u8 5), .lit (.int .u8 10), .lit (.int .u8 9)]

/-- 'sparselaw43.CondSound': WHATEVER THE INPUT: true; the input reads as it did. -/
def condSoundSpec : ChangeSpec := { name := "condSound", fn := fun _ => fun
  | [d1, d2, d3, d4, d5] => { results := [.lit (.bool true)], args := [d1, d2, d3, d4, d5] }
  | _ => none }
def condSoundRow : OpenClaim := { program := "ytbjoghfmhgadkaagreatdoor", sum := "290060db7f035689133e4f77ef69002e888bc4bfbc6e589e624276ea7a9db913", func := "sparse/sparselaw43.CondSound", spec := "condSound", unfollowed := true, recurses := true, named := ["math/bits.deBruijn32tab"], apart := false, laid := [("math/bits.deBruijn32tab", laid_math_bits_deBruijn32tab)] }
def CondSoundSaid : Prop := condSoundRow.holds Tryz.pinned (OpenSpec.ofChange condSoundSpec)

/-- ITS FALSE NEIGHBOUR: 'it returns false'. Refute it at one input. -/
def condSoundWrong : ChangeSpec := { name := "condSound", fn := fun _ => fun
  | [d1, d2, d3, d4, d5] => { results := [.lit (.bool false)], args := [d1, d2, d3, d4, d5] }
  | _ => none }
def CondSoundWrongFalsely : Prop := condSoundRow.holds Tryz.pinned (OpenSpec.ofChange condSoundWrong)

/-- 'sparselaw43.CondScales': WHATEVER THE INPUT: true; the input reads as it did. -/
def condScalesSpec : ChangeSpec := { name := "condScales", fn := fun _ => fun
  | [d1, d2, d3, d4, d5] => { results := [.lit (.bool true)], args := [d1, d2, d3, d4, d5] }
  | _ => none }
def condScalesRow : OpenClaim := { program := "ytbjoghfmhgadkaagreatdoor", sum := "290060db7f035689133e4f77ef69002e888bc4bfbc6e589e624276ea7a9db913", func := "sparse/sparselaw43.CondScales", spec := "condScales", unfollowed := true, recurses := true, named := ["math/bits.deBruijn32tab"], apart := false, laid := [("math/bits.deBruijn32tab", laid_math_bits_deBruijn32tab)] }
def CondScalesSaid : Prop := condScalesRow.holds Tryz.pinned (OpenSpec.ofChange condScalesSpec)

/-- ITS FALSE NEIGHBOUR: 'it returns false'. Refute it at one input. -/
def condScalesWrong : ChangeSpec := { name := "condScales", fn := fun _ => fun
  | [d1, d2, d3, d4, d5] => { results := [.lit (.bool false)], args := [d1, d2, d3, d4, d5] }
  | _ => none }
def CondScalesWrongFalsely : Prop := condScalesRow.holds Tryz.pinned (OpenSpec.ofChange condScalesWrong)

/-- 'sparselaw43.CondBelow': WHATEVER THE INPUT: true; the input reads as it did. -/
def condBelowSpec : ChangeSpec := { name := "condBelow", fn := fun _ => fun
  | [d1, d2, d3] => { results := [.lit (.bool true)], args := [d1, d2, d3] }
  | _ => none }
def condBelowRow : OpenClaim := { program := "ytbjoghfmhgadkaagreatdoor", sum := "290060db7f035689133e4f77ef69002e888bc4bfbc6e589e624276ea7a9db913", func := "sparse/sparselaw43.CondBelow", spec := "condBelow", unfollowed := true, recurses := true, named := ["math/bits.deBruijn32tab"], apart := false, laid := [("math/bits.deBruijn32tab", laid_math_bits_deBruijn32tab)] }
def CondBelowSaid : Prop := condBelowRow.holds Tryz.pinned (OpenSpec.ofChange condBelowSpec)

/-- ITS FALSE NEIGHBOUR: 'it returns false'. Refute it at one input. -/
def condBelowWrong : ChangeSpec := { name := "condBelow", fn := fun _ => fun
  | [d1, d2, d3] => { results := [.lit (.bool false)], args := [d1, d2, d3] }
  | _ => none }
def CondBelowWrongFalsely : Prop := condBelowRow.holds Tryz.pinned (OpenSpec.ofChange condBelowWrong)

/-- 'sparselaw26.LuFactors': WHATEVER THE INPUT: true; the input reads as it did. -/
def luFactorsSpec : ChangeSpec := { name := "luFactors", fn := fun _ => fun
  | [d1, d2, d3, d4, d5, d6] => { results := [.lit (.bool true)], args := [d1, d2, d3, d4, d5, d6] }
  | _ => none }
def luFactorsRow : OpenClaim := { program := "ytbjoghfmhgadkaagreatdoor", sum := "290060db7f035689133e4f77ef69002e888bc4bfbc6e589e624276ea7a9db913", func := "sparse/sparselaw26.LuFactors", spec := "luFactors", unfollowed := true, recurses := true, named := ["math/bits.deBruijn32tab"], apart := false, laid := [("math/bits.deBruijn32tab", laid_math_bits_deBruijn32tab)] }
def LuFactorsSaid : Prop := luFactorsRow.holds Tryz.pinned (OpenSpec.ofChange luFactorsSpec)

/-- ITS FALSE NEIGHBOUR: 'it returns false'. Refute it at one input. -/
def luFactorsWrong : ChangeSpec := { name := "luFactors", fn := fun _ => fun
  | [d1, d2, d3, d4, d5, d6] => { results := [.lit (.bool false)], args := [d1, d2, d3, d4, d5, d6] }
  | _ => none }
def LuFactorsWrongFalsely : Prop := luFactorsRow.holds Tryz.pinned (OpenSpec.ofChange luFactorsWrong)

/-- 'sparselaw26.LuSingular': WHATEVER THE INPUT: true; the input reads as it did. -/
def luSingularSpec : ChangeSpec := { name := "luSingular", fn := fun _ => fun
  | [d1, d2, d3, d4, d5] => { results := [.lit (.bool true)], args := [d1, d2, d3, d4, d5] }
  | _ => none }
def luSingularRow : OpenClaim := { program := "ytbjoghfmhgadkaagreatdoor", sum := "290060db7f035689133e4f77ef69002e888bc4bfbc6e589e624276ea7a9db913", func := "sparse/sparselaw26.LuSingular", spec := "luSingular", unfollowed := true, recurses := true, named := ["math/bits.deBruijn32tab"], apart := false, laid := [("math/bits.deBruijn32tab", laid_math_bits_deBruijn32tab)] }
def LuSingularSaid : Prop := luSingularRow.holds Tryz.pinned (OpenSpec.ofChange luSingularSpec)

/-- ITS FALSE NEIGHBOUR: 'it returns false'. Refute it at one input. -/
def luSingularWrong : ChangeSpec := { name := "luSingular", fn := fun _ => fun
  | [d1, d2, d3, d4, d5] => { results := [.lit (.bool false)], args := [d1, d2, d3, d4, d5] }
  | _ => none }
def LuSingularWrongFalsely : Prop := luSingularRow.holds Tryz.pinned (OpenSpec.ofChange luSingularWrong)

/-- 'sparselaw26.LuTriangular': WHATEVER THE INPUT: true; the input reads as it did. -/
def luTriangularSpec : ChangeSpec := { name := "luTriangular", fn := fun _ => fun
  | [d1, d2, d3, d4, d5] => { results := [.lit (.bool true)], args := [d1, d2, d3, d4, d5] }
  | _ => none }
def luTriangularRow : OpenClaim := { program := "ytbjoghfmhgadkaagreatdoor", sum := "290060db7f035689133e4f77ef69002e888bc4bfbc6e589e624276ea7a9db913", func := "sparse/sparselaw26.LuTriangular", spec := "luTriangular", unfollowed := true, recurses := true, named := ["math/bits.deBruijn32tab"], apart := false, laid := [("math/bits.deBruijn32tab", laid_math_bits_deBruijn32tab)] }
def LuTriangularSaid : Prop := luTriangularRow.holds Tryz.pinned (OpenSpec.ofChange luTriangularSpec)

/-- ITS FALSE NEIGHBOUR: 'it returns false'. Refute it at one input. -/
def luTriangularWrong : ChangeSpec := { name := "luTriangular", fn := fun _ => fun
  | [d1, d2, d3, d4, d5] => { results := [.lit (.bool false)], args := [d1, d2, d3, d4, d5] }
  | _ => none }
def LuTriangularWrongFalsely : Prop := luTriangularRow.holds Tryz.pinned (OpenSpec.ofChange luTriangularWrong)

/-- 'sparselaw26.LuBounded': WHATEVER THE INPUT: true; the input reads as it did. -/
def luBoundedSpec : ChangeSpec := { name := "luBounded", fn := fun _ => fun
  | [d1, d2, d3] => { results := [.lit (.bool true)], args := [d1, d2, d3] }
  | _ => none }
def luBoundedRow : OpenClaim := { program := "ytbjoghfmhgadkaagreatdoor", sum := "290060db7f035689133e4f77ef69002e888bc4bfbc6e589e624276ea7a9db913", func := "sparse/sparselaw26.LuBounded", spec := "luBounded", unfollowed := true, recurses := true, named := ["math/bits.deBruijn32tab"], apart := false, laid := [("math/bits.deBruijn32tab", laid_math_bits_deBruijn32tab)] }
def LuBoundedSaid : Prop := luBoundedRow.holds Tryz.pinned (OpenSpec.ofChange luBoundedSpec)

/-- ITS FALSE NEIGHBOUR: 'it returns false'. Refute it at one input. -/
def luBoundedWrong : ChangeSpec := { name := "luBounded", fn := fun _ => fun
  | [d1, d2, d3] => { results := [.lit (.bool false)], args := [d1, d2, d3] }
  | _ => none }
def LuBoundedWrongFalsely : Prop := luBoundedRow.holds Tryz.pinned (OpenSpec.ofChange luBoundedWrong)

/-- 'sparselaw26.LuErrors': WHATEVER THE INPUT: true; the input reads as it did. -/
def luErrorsSpec : ChangeSpec := { name := "luErrors", fn := fun _ => fun
  | [d1, d2, d3, d4, d5] => { results := [.lit (.bool true)], args := [d1, d2, d3, d4, d5] }
  | _ => none }
def luErrorsRow : OpenClaim := { program := "ytbjoghfmhgadkaagreatdoor", sum := "290060db7f035689133e4f77ef69002e888bc4bfbc6e589e624276ea7a9db913", func := "sparse/sparselaw26.LuErrors", spec := "luErrors", unfollowed := true, recurses := true, named := ["math/bits.deBruijn32tab"], apart := false, laid := [("math/bits.deBruijn32tab", laid_math_bits_deBruijn32tab)] }
def LuErrorsSaid : Prop := luErrorsRow.holds Tryz.pinned (OpenSpec.ofChange luErrorsSpec)

/-- ITS FALSE NEIGHBOUR: 'it returns false'. Refute it at one input. -/
def luErrorsWrong : ChangeSpec := { name := "luErrors", fn := fun _ => fun
  | [d1, d2, d3, d4, d5] => { results := [.lit (.bool false)], args := [d1, d2, d3, d4, d5] }
  | _ => none }
def LuErrorsWrongFalsely : Prop := luErrorsRow.holds Tryz.pinned (OpenSpec.ofChange luErrorsWrong)

/-- 'sparselaw26.LuRefuses': WHATEVER THE INPUT: true; the input reads as it did. -/
def luRefusesSpec : ChangeSpec := { name := "luRefuses", fn := fun _ => fun
  | [d1, d2, d3, d4, d5, d6, d7] => { results := [.lit (.bool true)], args := [d1, d2, d3, d4, d5, d6, d7] }
  | _ => none }
def luRefusesRow : OpenClaim := { program := "ytbjoghfmhgadkaagreatdoor", sum := "290060db7f035689133e4f77ef69002e888bc4bfbc6e589e624276ea7a9db913", func := "sparse/sparselaw26.LuRefuses", spec := "luRefuses", unfollowed := true, recurses := true, named := ["math/bits.deBruijn32tab"], apart := false, laid := [("math/bits.deBruijn32tab", laid_math_bits_deBruijn32tab)] }
def LuRefusesSaid : Prop := luRefusesRow.holds Tryz.pinned (OpenSpec.ofChange luRefusesSpec)

/-- ITS FALSE NEIGHBOUR: 'it returns false'. Refute it at one input. -/
def luRefusesWrong : ChangeSpec := { name := "luRefuses", fn := fun _ => fun
  | [d1, d2, d3, d4, d5, d6, d7] => { results := [.lit (.bool false)], args := [d1, d2, d3, d4, d5, d6, d7] }
  | _ => none }
def LuRefusesWrongFalsely : Prop := luRefusesRow.holds Tryz.pinned (OpenSpec.ofChange luRefusesWrong)

/-- 'sparselaw26.LuReads': WHATEVER THE INPUT: true; the input reads as it did. -/
def luReadsSpec : ChangeSpec := { name := "luReads", fn := fun _ => fun
  | [d1, d2, d3, d4] => { results := [.lit (.bool true)], args := [d1, d2, d3, d4] }
  | _ => none }
def luReadsRow : OpenClaim := { program := "ytbjoghfmhgadkaagreatdoor", sum := "290060db7f035689133e4f77ef69002e888bc4bfbc6e589e624276ea7a9db913", func := "sparse/sparselaw26.LuReads", spec := "luReads", unfollowed := true, recurses := true, named := ["math/bits.deBruijn32tab"], apart := false, laid := [("math/bits.deBruijn32tab", laid_math_bits_deBruijn32tab)] }
def LuReadsSaid : Prop := luReadsRow.holds Tryz.pinned (OpenSpec.ofChange luReadsSpec)

/-- ITS FALSE NEIGHBOUR: 'it returns false'. Refute it at one input. -/
def luReadsWrong : ChangeSpec := { name := "luReads", fn := fun _ => fun
  | [d1, d2, d3, d4] => { results := [.lit (.bool false)], args := [d1, d2, d3, d4] }
  | _ => none }
def LuReadsWrongFalsely : Prop := luReadsRow.holds Tryz.pinned (OpenSpec.ofChange luReadsWrong)

/- THE SECOND FORM. 'bulk': how many values and letters a reading holds, each counted each time it is reached (what is shared counts as often as it is met; a slice's spare places count too). A statement '..UptoSaid' is the law's where the arguments, and the package variables that the reading takes, are together of bulk at most 1048576: NARROWER than '..Said'. Prove '..Said' where nothing that the law and all that it calls make is longer than what came in: it says more and counts as full. Else prove '..UptoSaid'. A law counts once. -/
mutual
def uptoBulk {H : Type} : DataW H → Nat
  | .lit (.string bytes) => bytes.length + 1
  | .lit _ => 1
  | .nil => 1
  | .ptr d => uptoBulk d + 1
  | .slice elems spare => uptoBulkAll elems + uptoBulkAll spare + 1
  | .agg parts => uptoBulkAll parts + 1
  | .iface _ d => uptoBulk d + 1
  | .map entries => uptoBulkEntries entries + 1
  | .held _ => 1
def uptoBulkAll {H : Type} : List (DataW H) → Nat
  | [] => 0
  | d :: r => uptoBulk d + uptoBulkAll r
def uptoBulkEntries {H : Type} : List (Lit × DataW H) → Nat
  | [] => 0
  | x :: r => uptoBulkEntry x + uptoBulkEntries r
def uptoBulkEntry {H : Type} : Lit × DataW H → Nat
  | (.string bytes, d) => bytes.length + uptoBulk d + 1
  | (_, d) => uptoBulk d + 1
 end
def uptoSmall : (H : Type) → List (DataW H) → Bool := fun _ ds => decide (uptoBulkAll ds ≤ 1048576)
def OpenSpec.upto (s : _root_.Go.ChangeSpec) : _root_.Go.OpenSpec := { _root_.Go.OpenSpec.ofChange s with cond := some uptoSmall }

/-- 'sparselaw43.CondSound', WHERE WHAT IT READS IS OF BULK AT MOST 1048576: true; the input reads as it did. -/
def condSoundUptoRow : OpenClaim := { program := "ytbjoghfmhgadkaagreatdoor", sum := "290060db7f035689133e4f77ef69002e888bc4bfbc6e589e624276ea7a9db913", func := "sparse/sparselaw43.CondSound", spec := "condSound", unfollowed := true, recurses := true, named := ["math/bits.deBruijn32tab"], apart := false, laid := [("math/bits.deBruijn32tab", laid_math_bits_deBruijn32tab)], narrowed := true }
def CondSoundUptoSaid : Prop := condSoundUptoRow.holds Tryz.pinned (OpenSpec.upto condSoundSpec)

/-- 'sparselaw43.CondScales', WHERE WHAT IT READS IS OF BULK AT MOST 1048576: true; the input reads as it did. -/
def condScalesUptoRow : OpenClaim := { program := "ytbjoghfmhgadkaagreatdoor", sum := "290060db7f035689133e4f77ef69002e888bc4bfbc6e589e624276ea7a9db913", func := "sparse/sparselaw43.CondScales", spec := "condScales", unfollowed := true, recurses := true, named := ["math/bits.deBruijn32tab"], apart := false, laid := [("math/bits.deBruijn32tab", laid_math_bits_deBruijn32tab)], narrowed := true }
def CondScalesUptoSaid : Prop := condScalesUptoRow.holds Tryz.pinned (OpenSpec.upto condScalesSpec)

/-- 'sparselaw43.CondBelow', WHERE WHAT IT READS IS OF BULK AT MOST 1048576: true; the input reads as it did. -/
def condBelowUptoRow : OpenClaim := { program := "ytbjoghfmhgadkaagreatdoor", sum := "290060db7f035689133e4f77ef69002e888bc4bfbc6e589e624276ea7a9db913", func := "sparse/sparselaw43.CondBelow", spec := "condBelow", unfollowed := true, recurses := true, named := ["math/bits.deBruijn32tab"], apart := false, laid := [("math/bits.deBruijn32tab", laid_math_bits_deBruijn32tab)], narrowed := true }
def CondBelowUptoSaid : Prop := condBelowUptoRow.holds Tryz.pinned (OpenSpec.upto condBelowSpec)

/-- 'sparselaw26.LuFactors', WHERE WHAT IT READS IS OF BULK AT MOST 1048576: true; the input reads as it did. -/
def luFactorsUptoRow : OpenClaim := { program := "ytbjoghfmhgadkaagreatdoor", sum := "290060db7f035689133e4f77ef69002e888bc4bfbc6e589e624276ea7a9db913", func := "sparse/sparselaw26.LuFactors", spec := "luFactors", unfollowed := true, recurses := true, named := ["math/bits.deBruijn32tab"], apart := false, laid := [("math/bits.deBruijn32tab", laid_math_bits_deBruijn32tab)], narrowed := true }
def LuFactorsUptoSaid : Prop := luFactorsUptoRow.holds Tryz.pinned (OpenSpec.upto luFactorsSpec)

/-- 'sparselaw26.LuSingular', WHERE WHAT IT READS IS OF BULK AT MOST 1048576: true; the input reads as it did. -/
def luSingularUptoRow : OpenClaim := { program := "ytbjoghfmhgadkaagreatdoor", sum := "290060db7f035689133e4f77ef69002e888bc4bfbc6e589e624276ea7a9db913", func := "sparse/sparselaw26.LuSingular", spec := "luSingular", unfollowed := true, recurses := true, named := ["math/bits.deBruijn32tab"], apart := false, laid := [("math/bits.deBruijn32tab", laid_math_bits_deBruijn32tab)], narrowed := true }
def LuSingularUptoSaid : Prop := luSingularUptoRow.holds Tryz.pinned (OpenSpec.upto luSingularSpec)

/-- 'sparselaw26.LuTriangular', WHERE WHAT IT READS IS OF BULK AT MOST 1048576: true; the input reads as it did. -/
def luTriangularUptoRow : OpenClaim := { program := "ytbjoghfmhgadkaagreatdoor", sum := "290060db7f035689133e4f77ef69002e888bc4bfbc6e589e624276ea7a9db913", func := "sparse/sparselaw26.LuTriangular", spec := "luTriangular", unfollowed := true, recurses := true, named := ["math/bits.deBruijn32tab"], apart := false, laid := [("math/bits.deBruijn32tab", laid_math_bits_deBruijn32tab)], narrowed := true }
def LuTriangularUptoSaid : Prop := luTriangularUptoRow.holds Tryz.pinned (OpenSpec.upto luTriangularSpec)

/-- 'sparselaw26.LuBounded', WHERE WHAT IT READS IS OF BULK AT MOST 1048576: true; the input reads as it did. -/
def luBoundedUptoRow : OpenClaim := { program := "ytbjoghfmhgadkaagreatdoor", sum := "290060db7f035689133e4f77ef69002e888bc4bfbc6e589e624276ea7a9db913", func := "sparse/sparselaw26.LuBounded", spec := "luBounded", unfollowed := true, recurses := true, named := ["math/bits.deBruijn32tab"], apart := false, laid := [("math/bits.deBruijn32tab", laid_math_bits_deBruijn32tab)], narrowed := true }
def LuBoundedUptoSaid : Prop := luBoundedUptoRow.holds Tryz.pinned (OpenSpec.upto luBoundedSpec)

/-- 'sparselaw26.LuErrors', WHERE WHAT IT READS IS OF BULK AT MOST 1048576: true; the input reads as it did. -/
def luErrorsUptoRow : OpenClaim := { program := "ytbjoghfmhgadkaagreatdoor", sum := "290060db7f035689133e4f77ef69002e888bc4bfbc6e589e624276ea7a9db913", func := "sparse/sparselaw26.LuErrors", spec := "luErrors", unfollowed := true, recurses := true, named := ["math/bits.deBruijn32tab"], apart := false, laid := [("math/bits.deBruijn32tab", laid_math_bits_deBruijn32tab)], narrowed := true }
def LuErrorsUptoSaid : Prop := luErrorsUptoRow.holds Tryz.pinned (OpenSpec.upto luErrorsSpec)

/-- 'sparselaw26.LuRefuses', WHERE WHAT IT READS IS OF BULK AT MOST 1048576: true; the input reads as it did. -/
def luRefusesUptoRow : OpenClaim := { program := "ytbjoghfmhgadkaagreatdoor", sum := "290060db7f035689133e4f77ef69002e888bc4bfbc6e589e624276ea7a9db913", func := "sparse/sparselaw26.LuRefuses", spec := "luRefuses", unfollowed := true, recurses := true, named := ["math/bits.deBruijn32tab"], apart := false, laid := [("math/bits.deBruijn32tab", laid_math_bits_deBruijn32tab)], narrowed := true }
def LuRefusesUptoSaid : Prop := luRefusesUptoRow.holds Tryz.pinned (OpenSpec.upto luRefusesSpec)

/-- 'sparselaw26.LuReads', WHERE WHAT IT READS IS OF BULK AT MOST 1048576: true; the input reads as it did. -/
def luReadsUptoRow : OpenClaim := { program := "ytbjoghfmhgadkaagreatdoor", sum := "290060db7f035689133e4f77ef69002e888bc4bfbc6e589e624276ea7a9db913", func := "sparse/sparselaw26.LuReads", spec := "luReads", unfollowed := true, recurses := true, named := ["math/bits.deBruijn32tab"], apart := false, laid := [("math/bits.deBruijn32tab", laid_math_bits_deBruijn32tab)], narrowed := true }
def LuReadsUptoSaid : Prop := luReadsUptoRow.holds Tryz.pinned (OpenSpec.upto luReadsSpec)

end Rows
end Go.Proofs.YtbjoghfmhgadkaaGreatDoor

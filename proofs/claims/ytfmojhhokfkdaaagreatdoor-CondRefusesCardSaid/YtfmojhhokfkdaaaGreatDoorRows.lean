/-
  NARROWER THAN 'FOR EVERY INPUT', by the rows' own cells (each row's printed sentence says how): RefineHalves: laid · RefineResidual: laid · RefinePairs: laid · RefineDoubled: laid · RefineRefuses: laid · KrylovExact: laid · CondScales: laid · CondBounds: laid · CondSound: laid · CondLower: laid · CondBelow: laid · CondRefuses: laid.
  DERIVED. THE GIVEN ROWS OF THIS SEAT. 12 by the template 'for every input the law returns true; each argument reads behind the call as it read before'; 0 by the template 'total and deterministic' (their statements: YtfmojhhokfkdaaaGreatDoorTotals.lean).
  GIVEN WITH THE SEED: the statements are not yours to turn. If you find one false, say at which input.
  Laid BY PROGRAM, IN A SANDBOX (cutbox-rows.mjs): the forced cells as the released guide's own fill.sh prints them over the translation c8694b46c2a6cbc7… (all of the seat's roots in one cut). By AI agents, Wed Nov 11 2026. No macro, syntax, notation, axiom, sorry.
-/
import Derived.Test.YtfmojhhokfkdaaaGreatDoorChecked
import GoSem.Claim
import GoSem.ClaimJoined
import GoSem.ClaimMapViews
import Derived.JoinedTies
import Derived.KernelRfl
namespace Go.Proofs.YtfmojhhokfkdaaaGreatDoor
/- THE CELL 'sum', in the pinned program and in every row, IS THE sha256 OF THE DUMP (.gsa) THAT YtfmojhhokfkdaaaGreatDoorProg.lean LOADS. Nothing in Lean hashes anything: it is a label: what it is worth is what the hold of that sum in a sandbox is worth. -/
noncomputable def Tryz.pinned : Pinned := { name := "ytfmojhhokfkdaaagreatdoor", sum := "c8694b46c2a6cbc72cb80c7391d31c11b94b3c2e62ec0b5ce50f71ac04558a1e", checked := Tryz.checked }
namespace Rows
def none {H : Type} : Left H := { results := [], args := [] }

/- WHAT THE LISTED PACKAGE-LEVEL VARIABLES READ AS WHEN THE CALL BEGINS. Each datum BY PROGRAM (the guide's laid-datum.mjs) off the statement by which the dump's own 'gosem.cut.vars' lays the variable. In a bare row this is a premise. The card (YtfmojhhokfkdaaaGreatDoorCards.lean) ties it to the program's text. -/
def laid_math_bits_deBruijn32tab {H : Type} : DataW H := .agg [.lit (.int .u8 0), .lit (.int .u8 1), .lit (.int .u8 28), .lit (.int .u8 2), .lit (.int .u8 29), .lit (.int .u8 14), .lit (.int .u8 24), .lit (.int .u8 3), .lit (.int .u8 30), .lit (.int .u8 22), .lit (.int .u8 20), .lit (.int .u8 15), .lit (.int .u8 25), .lit (.int .u8 17), .lit (.int .u8 4), .lit (.int .u8 8), .lit (.int .u8 31), .lit (.int .u8 27), .lit (.int .u8 13), .lit (.int .u8 23), .lit (.int .u8 21), .lit (.int .u8 19), .lit (.int .u8 16), .lit (.int .u8 7), .lit (.int .u8 26), .lit (.int .u8 12), .lit (.int .u8 18), .lit (.int .u8 6), .lit (.int .u8 11), .lit (.int .u8 5), .lit (.int .u8 10), .lit (.int .u8 9)]

/-- 'sparselaw35.RefineHalves': WHATEVER THE INPUT: true; the input reads as it did. -/
def refineHalvesSpec : ChangeSpec := { name := "refineHalves", fn := fun _ => fun
  | [d1, d2, d3, d4] => { results := [.lit (.bool true)], args := [d1, d2, d3, d4] }
  | _ => none }
def refineHalvesRow : OpenClaim := { program := "ytfmojhhokfkdaaagreatdoor", sum := "c8694b46c2a6cbc72cb80c7391d31c11b94b3c2e62ec0b5ce50f71ac04558a1e", func := "sparse/sparselaw35.RefineHalves", spec := "refineHalves", unfollowed := true, recurses := true, named := ["math/bits.deBruijn32tab"], apart := false, laid := [("math/bits.deBruijn32tab", laid_math_bits_deBruijn32tab)] }
def RefineHalvesSaid : Prop := refineHalvesRow.holds Tryz.pinned (OpenSpec.ofChange refineHalvesSpec)

/-- ITS FALSE NEIGHBOUR: 'it returns false'. Refute it at one input. -/
def refineHalvesWrong : ChangeSpec := { name := "refineHalves", fn := fun _ => fun
  | [d1, d2, d3, d4] => { results := [.lit (.bool false)], args := [d1, d2, d3, d4] }
  | _ => none }
def RefineHalvesWrongFalsely : Prop := refineHalvesRow.holds Tryz.pinned (OpenSpec.ofChange refineHalvesWrong)

/-- 'sparselaw35.RefineResidual': WHATEVER THE INPUT: true; the input reads as it did. -/
def refineResidualSpec : ChangeSpec := { name := "refineResidual", fn := fun _ => fun
  | [d1, d2, d3, d4, d5, d6] => { results := [.lit (.bool true)], args := [d1, d2, d3, d4, d5, d6] }
  | _ => none }
def refineResidualRow : OpenClaim := { program := "ytfmojhhokfkdaaagreatdoor", sum := "c8694b46c2a6cbc72cb80c7391d31c11b94b3c2e62ec0b5ce50f71ac04558a1e", func := "sparse/sparselaw35.RefineResidual", spec := "refineResidual", unfollowed := true, recurses := true, named := ["math/bits.deBruijn32tab"], apart := false, laid := [("math/bits.deBruijn32tab", laid_math_bits_deBruijn32tab)] }
def RefineResidualSaid : Prop := refineResidualRow.holds Tryz.pinned (OpenSpec.ofChange refineResidualSpec)

/-- ITS FALSE NEIGHBOUR: 'it returns false'. Refute it at one input. -/
def refineResidualWrong : ChangeSpec := { name := "refineResidual", fn := fun _ => fun
  | [d1, d2, d3, d4, d5, d6] => { results := [.lit (.bool false)], args := [d1, d2, d3, d4, d5, d6] }
  | _ => none }
def RefineResidualWrongFalsely : Prop := refineResidualRow.holds Tryz.pinned (OpenSpec.ofChange refineResidualWrong)

/-- 'sparselaw35.RefinePairs': WHATEVER THE INPUT: true; the input reads as it did. -/
def refinePairsSpec : ChangeSpec := { name := "refinePairs", fn := fun _ => fun
  | [d1, d2, d3, d4] => { results := [.lit (.bool true)], args := [d1, d2, d3, d4] }
  | _ => none }
def refinePairsRow : OpenClaim := { program := "ytfmojhhokfkdaaagreatdoor", sum := "c8694b46c2a6cbc72cb80c7391d31c11b94b3c2e62ec0b5ce50f71ac04558a1e", func := "sparse/sparselaw35.RefinePairs", spec := "refinePairs", unfollowed := true, recurses := true, named := ["math/bits.deBruijn32tab"], apart := false, laid := [("math/bits.deBruijn32tab", laid_math_bits_deBruijn32tab)] }
def RefinePairsSaid : Prop := refinePairsRow.holds Tryz.pinned (OpenSpec.ofChange refinePairsSpec)

/-- ITS FALSE NEIGHBOUR: 'it returns false'. Refute it at one input. -/
def refinePairsWrong : ChangeSpec := { name := "refinePairs", fn := fun _ => fun
  | [d1, d2, d3, d4] => { results := [.lit (.bool false)], args := [d1, d2, d3, d4] }
  | _ => none }
def RefinePairsWrongFalsely : Prop := refinePairsRow.holds Tryz.pinned (OpenSpec.ofChange refinePairsWrong)

/-- 'sparselaw35.RefineDoubled': WHATEVER THE INPUT: true; the input reads as it did. -/
def refineDoubledSpec : ChangeSpec := { name := "refineDoubled", fn := fun _ => fun
  | [d1, d2, d3, d4, d5] => { results := [.lit (.bool true)], args := [d1, d2, d3, d4, d5] }
  | _ => none }
def refineDoubledRow : OpenClaim := { program := "ytfmojhhokfkdaaagreatdoor", sum := "c8694b46c2a6cbc72cb80c7391d31c11b94b3c2e62ec0b5ce50f71ac04558a1e", func := "sparse/sparselaw35.RefineDoubled", spec := "refineDoubled", unfollowed := true, recurses := true, named := ["math/bits.deBruijn32tab"], apart := false, laid := [("math/bits.deBruijn32tab", laid_math_bits_deBruijn32tab)] }
def RefineDoubledSaid : Prop := refineDoubledRow.holds Tryz.pinned (OpenSpec.ofChange refineDoubledSpec)

/-- ITS FALSE NEIGHBOUR: 'it returns false'. Refute it at one input. -/
def refineDoubledWrong : ChangeSpec := { name := "refineDoubled", fn := fun _ => fun
  | [d1, d2, d3, d4, d5] => { results := [.lit (.bool false)], args := [d1, d2, d3, d4, d5] }
  | _ => none }
def RefineDoubledWrongFalsely : Prop := refineDoubledRow.holds Tryz.pinned (OpenSpec.ofChange refineDoubledWrong)

/-- 'sparselaw35.RefineRefuses': WHATEVER THE INPUT: true; the input reads as it did. -/
def refineRefusesSpec : ChangeSpec := { name := "refineRefuses", fn := fun _ => fun
  | [d1, d2, d3, d4, d5, d6, d7] => { results := [.lit (.bool true)], args := [d1, d2, d3, d4, d5, d6, d7] }
  | _ => none }
def refineRefusesRow : OpenClaim := { program := "ytfmojhhokfkdaaagreatdoor", sum := "c8694b46c2a6cbc72cb80c7391d31c11b94b3c2e62ec0b5ce50f71ac04558a1e", func := "sparse/sparselaw35.RefineRefuses", spec := "refineRefuses", unfollowed := true, recurses := true, named := ["math/bits.deBruijn32tab"], apart := false, laid := [("math/bits.deBruijn32tab", laid_math_bits_deBruijn32tab)] }
def RefineRefusesSaid : Prop := refineRefusesRow.holds Tryz.pinned (OpenSpec.ofChange refineRefusesSpec)

/-- ITS FALSE NEIGHBOUR: 'it returns false'. Refute it at one input. -/
def refineRefusesWrong : ChangeSpec := { name := "refineRefuses", fn := fun _ => fun
  | [d1, d2, d3, d4, d5, d6, d7] => { results := [.lit (.bool false)], args := [d1, d2, d3, d4, d5, d6, d7] }
  | _ => none }
def RefineRefusesWrongFalsely : Prop := refineRefusesRow.holds Tryz.pinned (OpenSpec.ofChange refineRefusesWrong)

/-- 'sparselaw36.KrylovExact': WHATEVER THE INPUT: true; the input reads as it did. -/
def krylovExactSpec : ChangeSpec := { name := "krylovExact", fn := fun _ => fun
  | [d1, d2] => { results := [.lit (.bool true)], args := [d1, d2] }
  | _ => none }
def krylovExactRow : OpenClaim := { program := "ytfmojhhokfkdaaagreatdoor", sum := "c8694b46c2a6cbc72cb80c7391d31c11b94b3c2e62ec0b5ce50f71ac04558a1e", func := "sparse/sparselaw36.KrylovExact", spec := "krylovExact", unfollowed := true, recurses := true, named := ["math/bits.deBruijn32tab"], apart := false, laid := [("math/bits.deBruijn32tab", laid_math_bits_deBruijn32tab)] }
def KrylovExactSaid : Prop := krylovExactRow.holds Tryz.pinned (OpenSpec.ofChange krylovExactSpec)

/-- ITS FALSE NEIGHBOUR: 'it returns false'. Refute it at one input. -/
def krylovExactWrong : ChangeSpec := { name := "krylovExact", fn := fun _ => fun
  | [d1, d2] => { results := [.lit (.bool false)], args := [d1, d2] }
  | _ => none }
def KrylovExactWrongFalsely : Prop := krylovExactRow.holds Tryz.pinned (OpenSpec.ofChange krylovExactWrong)

/-- 'sparselaw43.CondScales': WHATEVER THE INPUT: true; the input reads as it did. -/
def condScalesSpec : ChangeSpec := { name := "condScales", fn := fun _ => fun
  | [d1, d2, d3, d4, d5] => { results := [.lit (.bool true)], args := [d1, d2, d3, d4, d5] }
  | _ => none }
def condScalesRow : OpenClaim := { program := "ytfmojhhokfkdaaagreatdoor", sum := "c8694b46c2a6cbc72cb80c7391d31c11b94b3c2e62ec0b5ce50f71ac04558a1e", func := "sparse/sparselaw43.CondScales", spec := "condScales", unfollowed := true, recurses := true, named := ["math/bits.deBruijn32tab"], apart := false, laid := [("math/bits.deBruijn32tab", laid_math_bits_deBruijn32tab)] }
def CondScalesSaid : Prop := condScalesRow.holds Tryz.pinned (OpenSpec.ofChange condScalesSpec)

/-- ITS FALSE NEIGHBOUR: 'it returns false'. Refute it at one input. -/
def condScalesWrong : ChangeSpec := { name := "condScales", fn := fun _ => fun
  | [d1, d2, d3, d4, d5] => { results := [.lit (.bool false)], args := [d1, d2, d3, d4, d5] }
  | _ => none }
def CondScalesWrongFalsely : Prop := condScalesRow.holds Tryz.pinned (OpenSpec.ofChange condScalesWrong)

/-- 'sparselaw43.CondBounds': WHATEVER THE INPUT: true; the input reads as it did. -/
def condBoundsSpec : ChangeSpec := { name := "condBounds", fn := fun _ => fun
  | [d1, d2, d3, d4, d5, d6] => { results := [.lit (.bool true)], args := [d1, d2, d3, d4, d5, d6] }
  | _ => none }
def condBoundsRow : OpenClaim := { program := "ytfmojhhokfkdaaagreatdoor", sum := "c8694b46c2a6cbc72cb80c7391d31c11b94b3c2e62ec0b5ce50f71ac04558a1e", func := "sparse/sparselaw43.CondBounds", spec := "condBounds", unfollowed := true, recurses := true, named := ["math/bits.deBruijn32tab"], apart := false, laid := [("math/bits.deBruijn32tab", laid_math_bits_deBruijn32tab)] }
def CondBoundsSaid : Prop := condBoundsRow.holds Tryz.pinned (OpenSpec.ofChange condBoundsSpec)

/-- ITS FALSE NEIGHBOUR: 'it returns false'. Refute it at one input. -/
def condBoundsWrong : ChangeSpec := { name := "condBounds", fn := fun _ => fun
  | [d1, d2, d3, d4, d5, d6] => { results := [.lit (.bool false)], args := [d1, d2, d3, d4, d5, d6] }
  | _ => none }
def CondBoundsWrongFalsely : Prop := condBoundsRow.holds Tryz.pinned (OpenSpec.ofChange condBoundsWrong)

/-- 'sparselaw43.CondSound': WHATEVER THE INPUT: true; the input reads as it did. -/
def condSoundSpec : ChangeSpec := { name := "condSound", fn := fun _ => fun
  | [d1, d2, d3, d4, d5] => { results := [.lit (.bool true)], args := [d1, d2, d3, d4, d5] }
  | _ => none }
def condSoundRow : OpenClaim := { program := "ytfmojhhokfkdaaagreatdoor", sum := "c8694b46c2a6cbc72cb80c7391d31c11b94b3c2e62ec0b5ce50f71ac04558a1e", func := "sparse/sparselaw43.CondSound", spec := "condSound", unfollowed := true, recurses := true, named := ["math/bits.deBruijn32tab"], apart := false, laid := [("math/bits.deBruijn32tab", laid_math_bits_deBruijn32tab)] }
def CondSoundSaid : Prop := condSoundRow.holds Tryz.pinned (OpenSpec.ofChange condSoundSpec)

/-- ITS FALSE NEIGHBOUR: 'it returns false'. Refute it at one input. -/
def condSoundWrong : ChangeSpec := { name := "condSound", fn := fun _ => fun
  | [d1, d2, d3, d4, d5] => { results := [.lit (.bool false)], args := [d1, d2, d3, d4, d5] }
  | _ => none }
def CondSoundWrongFalsely : Prop := condSoundRow.holds Tryz.pinned (OpenSpec.ofChange condSoundWrong)

/-- 'sparselaw43.CondLower': WHATEVER THE INPUT: true; the input reads as it did. -/
def condLowerSpec : ChangeSpec := { name := "condLower", fn := fun _ => fun
  | [d1, d2, d3, d4, d5, d6] => { results := [.lit (.bool true)], args := [d1, d2, d3, d4, d5, d6] }
  | _ => none }
def condLowerRow : OpenClaim := { program := "ytfmojhhokfkdaaagreatdoor", sum := "c8694b46c2a6cbc72cb80c7391d31c11b94b3c2e62ec0b5ce50f71ac04558a1e", func := "sparse/sparselaw43.CondLower", spec := "condLower", unfollowed := true, recurses := true, named := ["math/bits.deBruijn32tab"], apart := false, laid := [("math/bits.deBruijn32tab", laid_math_bits_deBruijn32tab)] }
def CondLowerSaid : Prop := condLowerRow.holds Tryz.pinned (OpenSpec.ofChange condLowerSpec)

/-- ITS FALSE NEIGHBOUR: 'it returns false'. Refute it at one input. -/
def condLowerWrong : ChangeSpec := { name := "condLower", fn := fun _ => fun
  | [d1, d2, d3, d4, d5, d6] => { results := [.lit (.bool false)], args := [d1, d2, d3, d4, d5, d6] }
  | _ => none }
def CondLowerWrongFalsely : Prop := condLowerRow.holds Tryz.pinned (OpenSpec.ofChange condLowerWrong)

/-- 'sparselaw43.CondBelow': WHATEVER THE INPUT: true; the input reads as it did. -/
def condBelowSpec : ChangeSpec := { name := "condBelow", fn := fun _ => fun
  | [d1, d2, d3] => { results := [.lit (.bool true)], args := [d1, d2, d3] }
  | _ => none }
def condBelowRow : OpenClaim := { program := "ytfmojhhokfkdaaagreatdoor", sum := "c8694b46c2a6cbc72cb80c7391d31c11b94b3c2e62ec0b5ce50f71ac04558a1e", func := "sparse/sparselaw43.CondBelow", spec := "condBelow", unfollowed := true, recurses := true, named := ["math/bits.deBruijn32tab"], apart := false, laid := [("math/bits.deBruijn32tab", laid_math_bits_deBruijn32tab)] }
def CondBelowSaid : Prop := condBelowRow.holds Tryz.pinned (OpenSpec.ofChange condBelowSpec)

/-- ITS FALSE NEIGHBOUR: 'it returns false'. Refute it at one input. -/
def condBelowWrong : ChangeSpec := { name := "condBelow", fn := fun _ => fun
  | [d1, d2, d3] => { results := [.lit (.bool false)], args := [d1, d2, d3] }
  | _ => none }
def CondBelowWrongFalsely : Prop := condBelowRow.holds Tryz.pinned (OpenSpec.ofChange condBelowWrong)

/-- 'sparselaw43.CondRefuses': WHATEVER THE INPUT: true; the input reads as it did. -/
def condRefusesSpec : ChangeSpec := { name := "condRefuses", fn := fun _ => fun
  | [d1, d2, d3, d4, d5, d6, d7, d8] => { results := [.lit (.bool true)], args := [d1, d2, d3, d4, d5, d6, d7, d8] }
  | _ => none }
def condRefusesRow : OpenClaim := { program := "ytfmojhhokfkdaaagreatdoor", sum := "c8694b46c2a6cbc72cb80c7391d31c11b94b3c2e62ec0b5ce50f71ac04558a1e", func := "sparse/sparselaw43.CondRefuses", spec := "condRefuses", unfollowed := true, recurses := true, named := ["math/bits.deBruijn32tab"], apart := false, laid := [("math/bits.deBruijn32tab", laid_math_bits_deBruijn32tab)] }
def CondRefusesSaid : Prop := condRefusesRow.holds Tryz.pinned (OpenSpec.ofChange condRefusesSpec)

/-- ITS FALSE NEIGHBOUR: 'it returns false'. Refute it at one input. -/
def condRefusesWrong : ChangeSpec := { name := "condRefuses", fn := fun _ => fun
  | [d1, d2, d3, d4, d5, d6, d7, d8] => { results := [.lit (.bool false)], args := [d1, d2, d3, d4, d5, d6, d7, d8] }
  | _ => none }
def CondRefusesWrongFalsely : Prop := condRefusesRow.holds Tryz.pinned (OpenSpec.ofChange condRefusesWrong)

/- THE SECOND FORM. 'bulk': how many values and letters a reading holds, each counted each time it is reached (what is shared counts as often as it is met; a slice's spare places count too). A statement '..UptoSaid' is the law's where the arguments, and the package variables that the reading takes, are together of bulk at most 1048576: NARROWER than '..Said'. Prove '..Said' where nothing that the law and all that it calls make is longer than what came in: it says more and counts as full. Else prove '..UptoSaid'. A law counts once. -/
mutual
def uptoBulk {H : Type} : DataW H → Nat
  | .lit (.string bytes) => bytes.length + 1
  | .lit _ => 1
  | .nil => 1
  | .ptr d => uptoBulk d + 1
  | .slice elems spare => uptoBulkAll elems + uptoBulkAll spare + 1
  | .agg parts => uptoBulkAll parts + 1
  | .iface _ d => uptoBulk d + 1
  | .map entries => uptoBulkEntries entries + 1
  | .held _ => 1
def uptoBulkAll {H : Type} : List (DataW H) → Nat
  | [] => 0
  | d :: r => uptoBulk d + uptoBulkAll r
def uptoBulkEntries {H : Type} : List (Lit × DataW H) → Nat
  | [] => 0
  | x :: r => uptoBulkEntry x + uptoBulkEntries r
def uptoBulkEntry {H : Type} : Lit × DataW H → Nat
  | (.string bytes, d) => bytes.length + uptoBulk d + 1
  | (_, d) => uptoBulk d + 1
 end
def uptoSmall : (H : Type) → List (DataW H) → Bool := fun _ ds => decide (uptoBulkAll ds ≤ 1048576)
def OpenSpec.upto (s : _root_.Go.ChangeSpec) : _root_.Go.OpenSpec := { _root_.Go.OpenSpec.ofChange s with cond := some uptoSmall }

/-- 'sparselaw35.RefineHalves', WHERE WHAT IT READS IS OF BULK AT MOST 1048576: true; the input reads as it did. -/
def refineHalvesUptoRow : OpenClaim := { program := "ytfmojhhokfkdaaagreatdoor", sum := "c8694b46c2a6cbc72cb80c7391d31c11b94b3c2e62ec0b5ce50f71ac04558a1e", func := "sparse/sparselaw35.RefineHalves", spec := "refineHalves", unfollowed := true, recurses := true, named := ["math/bits.deBruijn32tab"], apart := false, laid := [("math/bits.deBruijn32tab", laid_math_bits_deBruijn32tab)], narrowed := true }
def RefineHalvesUptoSaid : Prop := refineHalvesUptoRow.holds Tryz.pinned (OpenSpec.upto refineHalvesSpec)

/-- 'sparselaw35.RefineResidual', WHERE WHAT IT READS IS OF BULK AT MOST 1048576: true; the input reads as it did. -/
def refineResidualUptoRow : OpenClaim := { program := "ytfmojhhokfkdaaagreatdoor", sum := "c8694b46c2a6cbc72cb80c7391d31c11b94b3c2e62ec0b5ce50f71ac04558a1e", func := "sparse/sparselaw35.RefineResidual", spec := "refineResidual", unfollowed := true, recurses := true, named := ["math/bits.deBruijn32tab"], apart := false, laid := [("math/bits.deBruijn32tab", laid_math_bits_deBruijn32tab)], narrowed := true }
def RefineResidualUptoSaid : Prop := refineResidualUptoRow.holds Tryz.pinned (OpenSpec.upto refineResidualSpec)

/-- 'sparselaw35.RefinePairs', WHERE WHAT IT READS IS OF BULK AT MOST 1048576: true; the input reads as it did. -/
def refinePairsUptoRow : OpenClaim := { program := "ytfmojhhokfkdaaagreatdoor", sum := "c8694b46c2a6cbc72cb80c7391d31c11b94b3c2e62ec0b5ce50f71ac04558a1e", func := "sparse/sparselaw35.RefinePairs", spec := "refinePairs", unfollowed := true, recurses := true, named := ["math/bits.deBruijn32tab"], apart := false, laid := [("math/bits.deBruijn32tab", laid_math_bits_deBruijn32tab)], narrowed := true }
def RefinePairsUptoSaid : Prop := refinePairsUptoRow.holds Tryz.pinned (OpenSpec.upto refinePairsSpec)

/-- 'sparselaw35.RefineDoubled', WHERE WHAT IT READS IS OF BULK AT MOST 1048576: true; the input reads as it did. -/
def refineDoubledUptoRow : OpenClaim := { program := "ytfmojhhokfkdaaagreatdoor", sum := "c8694b46c2a6cbc72cb80c7391d31c11b94b3c2e62ec0b5ce50f71ac04558a1e", func := "sparse/sparselaw35.RefineDoubled", spec := "refineDoubled", unfollowed := true, recurses := true, named := ["math/bits.deBruijn32tab"], apart := false, laid := [("math/bits.deBruijn32tab", laid_math_bits_deBruijn32tab)], narrowed := true }
def RefineDoubledUptoSaid : Prop := refineDoubledUptoRow.holds Tryz.pinned (OpenSpec.upto refineDoubledSpec)

/-- 'sparselaw35.RefineRefuses', WHERE WHAT IT READS IS OF BULK AT MOST 1048576: true; the input reads as it did. -/
def refineRefusesUptoRow : OpenClaim := { program := "ytfmojhhokfkdaaagreatdoor", sum := "c8694b46c2a6cbc72cb80c7391d31c11b94b3c2e62ec0b5ce50f71ac04558a1e", func := "sparse/sparselaw35.RefineRefuses", spec := "refineRefuses", unfollowed := true, recurses := true, named := ["math/bits.deBruijn32tab"], apart := false, laid := [("math/bits.deBruijn32tab", laid_math_bits_deBruijn32tab)], narrowed := true }
def RefineRefusesUptoSaid : Prop := refineRefusesUptoRow.holds Tryz.pinned (OpenSpec.upto refineRefusesSpec)

/-- 'sparselaw36.KrylovExact', WHERE WHAT IT READS IS OF BULK AT MOST 1048576: true; the input reads as it did. -/
def krylovExactUptoRow : OpenClaim := { program := "ytfmojhhokfkdaaagreatdoor", sum := "c8694b46c2a6cbc72cb80c7391d31c11b94b3c2e62ec0b5ce50f71ac04558a1e", func := "sparse/sparselaw36.KrylovExact", spec := "krylovExact", unfollowed := true, recurses := true, named := ["math/bits.deBruijn32tab"], apart := false, laid := [("math/bits.deBruijn32tab", laid_math_bits_deBruijn32tab)], narrowed := true }
def KrylovExactUptoSaid : Prop := krylovExactUptoRow.holds Tryz.pinned (OpenSpec.upto krylovExactSpec)

/-- 'sparselaw43.CondScales', WHERE WHAT IT READS IS OF BULK AT MOST 1048576: true; the input reads as it did. -/
def condScalesUptoRow : OpenClaim := { program := "ytfmojhhokfkdaaagreatdoor", sum := "c8694b46c2a6cbc72cb80c7391d31c11b94b3c2e62ec0b5ce50f71ac04558a1e", func := "sparse/sparselaw43.CondScales", spec := "condScales", unfollowed := true, recurses := true, named := ["math/bits.deBruijn32tab"], apart := false, laid := [("math/bits.deBruijn32tab", laid_math_bits_deBruijn32tab)], narrowed := true }
def CondScalesUptoSaid : Prop := condScalesUptoRow.holds Tryz.pinned (OpenSpec.upto condScalesSpec)

/-- 'sparselaw43.CondBounds', WHERE WHAT IT READS IS OF BULK AT MOST 1048576: true; the input reads as it did. -/
def condBoundsUptoRow : OpenClaim := { program := "ytfmojhhokfkdaaagreatdoor", sum := "c8694b46c2a6cbc72cb80c7391d31c11b94b3c2e62ec0b5ce50f71ac04558a1e", func := "sparse/sparselaw43.CondBounds", spec := "condBounds", unfollowed := true, recurses := true, named := ["math/bits.deBruijn32tab"], apart := false, laid := [("math/bits.deBruijn32tab", laid_math_bits_deBruijn32tab)], narrowed := true }
def CondBoundsUptoSaid : Prop := condBoundsUptoRow.holds Tryz.pinned (OpenSpec.upto condBoundsSpec)

/-- 'sparselaw43.CondSound', WHERE WHAT IT READS IS OF BULK AT MOST 1048576: true; the input reads as it did. -/
def condSoundUptoRow : OpenClaim := { program := "ytfmojhhokfkdaaagreatdoor", sum := "c8694b46c2a6cbc72cb80c7391d31c11b94b3c2e62ec0b5ce50f71ac04558a1e", func := "sparse/sparselaw43.CondSound", spec := "condSound", unfollowed := true, recurses := true, named := ["math/bits.deBruijn32tab"], apart := false, laid := [("math/bits.deBruijn32tab", laid_math_bits_deBruijn32tab)], narrowed := true }
def CondSoundUptoSaid : Prop := condSoundUptoRow.holds Tryz.pinned (OpenSpec.upto condSoundSpec)

/-- 'sparselaw43.CondLower', WHERE WHAT IT READS IS OF BULK AT MOST 1048576: true; the input reads as it did. -/
def condLowerUptoRow : OpenClaim := { program := "ytfmojhhokfkdaaagreatdoor", sum := "c8694b46c2a6cbc72cb80c7391d31c11b94b3c2e62ec0b5ce50f71ac04558a1e", func := "sparse/sparselaw43.CondLower", spec := "condLower", unfollowed := true, recurses := true, named := ["math/bits.deBruijn32tab"], apart := false, laid := [("math/bits.deBruijn32tab", laid_math_bits_deBruijn32tab)], narrowed := true }
def CondLowerUptoSaid : Prop := condLowerUptoRow.holds Tryz.pinned (OpenSpec.upto condLowerSpec)

/-- 'sparselaw43.CondBelow', WHERE WHAT IT READS IS OF BULK AT MOST 1048576: true; the input reads as it did. -/
def condBelowUptoRow : OpenClaim := { program := "ytfmojhhokfkdaaagreatdoor", sum := "c8694b46c2a6cbc72cb80c7391d31c11b94b3c2e62ec0b5ce50f71ac04558a1e", func := "sparse/sparselaw43.CondBelow", spec := "condBelow", unfollowed := true, recurses := true, named := ["math/bits.deBruijn32tab"], apart := false, laid := [("math/bits.deBruijn32tab", laid_math_bits_deBruijn32tab)], narrowed := true }
def CondBelowUptoSaid : Prop := condBelowUptoRow.holds Tryz.pinned (OpenSpec.upto condBelowSpec)

/-- 'sparselaw43.CondRefuses', WHERE WHAT IT READS IS OF BULK AT MOST 1048576: true; the input reads as it did. -/
def condRefusesUptoRow : OpenClaim := { program := "ytfmojhhokfkdaaagreatdoor", sum := "c8694b46c2a6cbc72cb80c7391d31c11b94b3c2e62ec0b5ce50f71ac04558a1e", func := "sparse/sparselaw43.CondRefuses", spec := "condRefuses", unfollowed := true, recurses := true, named := ["math/bits.deBruijn32tab"], apart := false, laid := [("math/bits.deBruijn32tab", laid_math_bits_deBruijn32tab)], narrowed := true }
def CondRefusesUptoSaid : Prop := condRefusesUptoRow.holds Tryz.pinned (OpenSpec.upto condRefusesSpec)

end Rows
end Go.Proofs.YtfmojhhokfkdaaaGreatDoor

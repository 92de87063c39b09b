/-
  NARROWER THAN 'FOR EVERY INPUT', by the rows' own cells (each row's printed sentence says how): SolveErrors: laid · SolveExact: laid · SolveTriangular: laid · SolveDefinite: laid · SolveSparse: laid · SolveReach: laid · SolveGeneral: laid · SolveIndefinite: laid.
  DERIVED. THE GIVEN ROWS OF THIS SEAT. 8 by the template 'for every input the law returns true; each argument reads behind the call as it read before'; 0 by the template 'total and deterministic' (their statements: YtjamnehcmaloeaaGreatDoorTotals.lean).
  GIVEN WITH THE SEED: the statements are not yours to turn. If you find one false, say at which input.
  Laid BY PROGRAM, IN A SANDBOX (cutbox-rows.mjs): the forced cells as the released guide's own fill.sh prints them over the translation 773a4a83b6611c17… (all of the seat's roots in one cut). By AI agents, Wed Nov 11 2026. No macro, syntax, notation, axiom, sorry.
-/
import Derived.Test.YtjamnehcmaloeaaGreatDoorChecked
import GoSem.Claim
import GoSem.ClaimJoined
import GoSem.ClaimMapViews
import Derived.JoinedTies
import Derived.KernelRfl
namespace Go.Proofs.YtjamnehcmaloeaaGreatDoor
/- THE CELL 'sum', in the pinned program and in every row, IS THE sha256 OF THE DUMP (.gsa) THAT YtjamnehcmaloeaaGreatDoorProg.lean LOADS. Nothing in Lean hashes anything: it is a label: what it is worth is what the hold of that sum in a sandbox is worth. -/
noncomputable def Tryz.pinned : Pinned := { name := "ytjamnehcmaloeaagreatdoor", sum := "773a4a83b6611c17d54de5352e47978475748df47bbb5818da72b22cee8fc881", checked := Tryz.checked }
namespace Rows
def none {H : Type} : Left H := { results := [], args := [] }

/- WHAT THE LISTED PACKAGE-LEVEL VARIABLES READ AS WHEN THE CALL BEGINS. Each datum BY PROGRAM (the guide's laid-datum.mjs) off the statement by which the dump's own 'gosem.cut.vars' lays the variable. In a bare row this is a premise. The card (YtjamnehcmaloeaaGreatDoorCards.lean) ties it to the program's text. -/
def laid_math_bits_deBruijn32tab {H : Type} : DataW H := .agg [.lit (.int .u8 0), .lit (.int .u8 1), .lit (.int .u8 28), .lit (.int .u8 2), .lit (.int .u8 29), .lit (.int .u8 14), .lit (.int .u8 24), .lit (.int .u8 3), .lit (.int .u8 30), .lit (.int .u8 22), .lit (.int .u8 20), .lit (.int .u8 15), .lit (.int .u8 25), .lit (.int .u8 17), .lit (.int .u8 4), .lit (.int .u8 8), .lit (.int .u8 31), .lit (.int .u8 27), .lit (.int .u8 13), .lit (.int .u8 23), .lit (.int .u8 21), .lit (.int .u8 19), .lit (.int .u8 16), .lit (.int .u8 7), .lit (.int .u8 26), .lit (.int .u8 12), .lit (.int .u8 18), .lit (.int .u8 6), .lit (.int .u8 11), .lit (.int .u8 5), .lit (.int .u8 10), .lit (.int .u8 9)]

/-- 'sparselaw28.SolveErrors': WHATEVER THE INPUT: true; the input reads as it did. -/
def solveErrorsSpec : ChangeSpec := { name := "solveErrors", fn := fun _ => fun
  | [d1, d2, d3, d4] => { results := [.lit (.bool true)], args := [d1, d2, d3, d4] }
  | _ => none }
def solveErrorsRow : OpenClaim := { program := "ytjamnehcmaloeaagreatdoor", sum := "773a4a83b6611c17d54de5352e47978475748df47bbb5818da72b22cee8fc881", func := "sparse/sparselaw28.SolveErrors", spec := "solveErrors", unfollowed := true, recurses := true, named := ["math/bits.deBruijn32tab"], apart := false, laid := [("math/bits.deBruijn32tab", laid_math_bits_deBruijn32tab)] }
def SolveErrorsSaid : Prop := solveErrorsRow.holds Tryz.pinned (OpenSpec.ofChange solveErrorsSpec)

/-- ITS FALSE NEIGHBOUR: 'it returns false'. Refute it at one input. -/
def solveErrorsWrong : ChangeSpec := { name := "solveErrors", fn := fun _ => fun
  | [d1, d2, d3, d4] => { results := [.lit (.bool false)], args := [d1, d2, d3, d4] }
  | _ => none }
def SolveErrorsWrongFalsely : Prop := solveErrorsRow.holds Tryz.pinned (OpenSpec.ofChange solveErrorsWrong)

/-- 'sparselaw28.SolveExact': WHATEVER THE INPUT: true; the input reads as it did. -/
def solveExactSpec : ChangeSpec := { name := "solveExact", fn := fun _ => fun
  | [d1, d2] => { results := [.lit (.bool true)], args := [d1, d2] }
  | _ => none }
def solveExactRow : OpenClaim := { program := "ytjamnehcmaloeaagreatdoor", sum := "773a4a83b6611c17d54de5352e47978475748df47bbb5818da72b22cee8fc881", func := "sparse/sparselaw28.SolveExact", spec := "solveExact", unfollowed := true, recurses := true, named := ["math/bits.deBruijn32tab"], apart := false, laid := [("math/bits.deBruijn32tab", laid_math_bits_deBruijn32tab)] }
def SolveExactSaid : Prop := solveExactRow.holds Tryz.pinned (OpenSpec.ofChange solveExactSpec)

/-- ITS FALSE NEIGHBOUR: 'it returns false'. Refute it at one input. -/
def solveExactWrong : ChangeSpec := { name := "solveExact", fn := fun _ => fun
  | [d1, d2] => { results := [.lit (.bool false)], args := [d1, d2] }
  | _ => none }
def SolveExactWrongFalsely : Prop := solveExactRow.holds Tryz.pinned (OpenSpec.ofChange solveExactWrong)

/-- 'sparselaw28.SolveTriangular': WHATEVER THE INPUT: true; the input reads as it did. -/
def solveTriangularSpec : ChangeSpec := { name := "solveTriangular", fn := fun _ => fun
  | [d1, d2, d3, d4, d5] => { results := [.lit (.bool true)], args := [d1, d2, d3, d4, d5] }
  | _ => none }
def solveTriangularRow : OpenClaim := { program := "ytjamnehcmaloeaagreatdoor", sum := "773a4a83b6611c17d54de5352e47978475748df47bbb5818da72b22cee8fc881", func := "sparse/sparselaw28.SolveTriangular", spec := "solveTriangular", unfollowed := true, recurses := true, named := ["math/bits.deBruijn32tab"], apart := false, laid := [("math/bits.deBruijn32tab", laid_math_bits_deBruijn32tab)] }
def SolveTriangularSaid : Prop := solveTriangularRow.holds Tryz.pinned (OpenSpec.ofChange solveTriangularSpec)

/-- ITS FALSE NEIGHBOUR: 'it returns false'. Refute it at one input. -/
def solveTriangularWrong : ChangeSpec := { name := "solveTriangular", fn := fun _ => fun
  | [d1, d2, d3, d4, d5] => { results := [.lit (.bool false)], args := [d1, d2, d3, d4, d5] }
  | _ => none }
def SolveTriangularWrongFalsely : Prop := solveTriangularRow.holds Tryz.pinned (OpenSpec.ofChange solveTriangularWrong)

/-- 'sparselaw28.SolveDefinite': WHATEVER THE INPUT: true; the input reads as it did. -/
def solveDefiniteSpec : ChangeSpec := { name := "solveDefinite", fn := fun _ => fun
  | [d1, d2, d3, d4, d5, d6] => { results := [.lit (.bool true)], args := [d1, d2, d3, d4, d5, d6] }
  | _ => none }
def solveDefiniteRow : OpenClaim := { program := "ytjamnehcmaloeaagreatdoor", sum := "773a4a83b6611c17d54de5352e47978475748df47bbb5818da72b22cee8fc881", func := "sparse/sparselaw28.SolveDefinite", spec := "solveDefinite", unfollowed := true, recurses := true, named := ["math/bits.deBruijn32tab"], apart := false, laid := [("math/bits.deBruijn32tab", laid_math_bits_deBruijn32tab)] }
def SolveDefiniteSaid : Prop := solveDefiniteRow.holds Tryz.pinned (OpenSpec.ofChange solveDefiniteSpec)

/-- ITS FALSE NEIGHBOUR: 'it returns false'. Refute it at one input. -/
def solveDefiniteWrong : ChangeSpec := { name := "solveDefinite", fn := fun _ => fun
  | [d1, d2, d3, d4, d5, d6] => { results := [.lit (.bool false)], args := [d1, d2, d3, d4, d5, d6] }
  | _ => none }
def SolveDefiniteWrongFalsely : Prop := solveDefiniteRow.holds Tryz.pinned (OpenSpec.ofChange solveDefiniteWrong)

/-- 'sparselaw28.SolveSparse': WHATEVER THE INPUT: true; the input reads as it did. -/
def solveSparseSpec : ChangeSpec := { name := "solveSparse", fn := fun _ => fun
  | [d1, d2, d3, d4, d5] => { results := [.lit (.bool true)], args := [d1, d2, d3, d4, d5] }
  | _ => none }
def solveSparseRow : OpenClaim := { program := "ytjamnehcmaloeaagreatdoor", sum := "773a4a83b6611c17d54de5352e47978475748df47bbb5818da72b22cee8fc881", func := "sparse/sparselaw28.SolveSparse", spec := "solveSparse", unfollowed := true, recurses := true, named := ["math/bits.deBruijn32tab"], apart := false, laid := [("math/bits.deBruijn32tab", laid_math_bits_deBruijn32tab)] }
def SolveSparseSaid : Prop := solveSparseRow.holds Tryz.pinned (OpenSpec.ofChange solveSparseSpec)

/-- ITS FALSE NEIGHBOUR: 'it returns false'. Refute it at one input. -/
def solveSparseWrong : ChangeSpec := { name := "solveSparse", fn := fun _ => fun
  | [d1, d2, d3, d4, d5] => { results := [.lit (.bool false)], args := [d1, d2, d3, d4, d5] }
  | _ => none }
def SolveSparseWrongFalsely : Prop := solveSparseRow.holds Tryz.pinned (OpenSpec.ofChange solveSparseWrong)

/-- 'sparselaw28.SolveReach': WHATEVER THE INPUT: true; the input reads as it did. -/
def solveReachSpec : ChangeSpec := { name := "solveReach", fn := fun _ => fun
  | [d1, d2, d3, d4] => { results := [.lit (.bool true)], args := [d1, d2, d3, d4] }
  | _ => none }
def solveReachRow : OpenClaim := { program := "ytjamnehcmaloeaagreatdoor", sum := "773a4a83b6611c17d54de5352e47978475748df47bbb5818da72b22cee8fc881", func := "sparse/sparselaw28.SolveReach", spec := "solveReach", unfollowed := true, recurses := true, named := ["math/bits.deBruijn32tab"], apart := false, laid := [("math/bits.deBruijn32tab", laid_math_bits_deBruijn32tab)] }
def SolveReachSaid : Prop := solveReachRow.holds Tryz.pinned (OpenSpec.ofChange solveReachSpec)

/-- ITS FALSE NEIGHBOUR: 'it returns false'. Refute it at one input. -/
def solveReachWrong : ChangeSpec := { name := "solveReach", fn := fun _ => fun
  | [d1, d2, d3, d4] => { results := [.lit (.bool false)], args := [d1, d2, d3, d4] }
  | _ => none }
def SolveReachWrongFalsely : Prop := solveReachRow.holds Tryz.pinned (OpenSpec.ofChange solveReachWrong)

/-- 'sparselaw28.SolveGeneral': WHATEVER THE INPUT: true; the input reads as it did. -/
def solveGeneralSpec : ChangeSpec := { name := "solveGeneral", fn := fun _ => fun
  | [d1, d2, d3, d4, d5] => { results := [.lit (.bool true)], args := [d1, d2, d3, d4, d5] }
  | _ => none }
def solveGeneralRow : OpenClaim := { program := "ytjamnehcmaloeaagreatdoor", sum := "773a4a83b6611c17d54de5352e47978475748df47bbb5818da72b22cee8fc881", func := "sparse/sparselaw28.SolveGeneral", spec := "solveGeneral", unfollowed := true, recurses := true, named := ["math/bits.deBruijn32tab"], apart := false, laid := [("math/bits.deBruijn32tab", laid_math_bits_deBruijn32tab)] }
def SolveGeneralSaid : Prop := solveGeneralRow.holds Tryz.pinned (OpenSpec.ofChange solveGeneralSpec)

/-- ITS FALSE NEIGHBOUR: 'it returns false'. Refute it at one input. -/
def solveGeneralWrong : ChangeSpec := { name := "solveGeneral", fn := fun _ => fun
  | [d1, d2, d3, d4, d5] => { results := [.lit (.bool false)], args := [d1, d2, d3, d4, d5] }
  | _ => none }
def SolveGeneralWrongFalsely : Prop := solveGeneralRow.holds Tryz.pinned (OpenSpec.ofChange solveGeneralWrong)

/-- 'sparselaw28.SolveIndefinite': WHATEVER THE INPUT: true; the input reads as it did. -/
def solveIndefiniteSpec : ChangeSpec := { name := "solveIndefinite", fn := fun _ => fun
  | [d1, d2, d3, d4, d5] => { results := [.lit (.bool true)], args := [d1, d2, d3, d4, d5] }
  | _ => none }
def solveIndefiniteRow : OpenClaim := { program := "ytjamnehcmaloeaagreatdoor", sum := "773a4a83b6611c17d54de5352e47978475748df47bbb5818da72b22cee8fc881", func := "sparse/sparselaw28.SolveIndefinite", spec := "solveIndefinite", unfollowed := true, recurses := true, named := ["math/bits.deBruijn32tab"], apart := false, laid := [("math/bits.deBruijn32tab", laid_math_bits_deBruijn32tab)] }
def SolveIndefiniteSaid : Prop := solveIndefiniteRow.holds Tryz.pinned (OpenSpec.ofChange solveIndefiniteSpec)

/-- ITS FALSE NEIGHBOUR: 'it returns false'. Refute it at one input. -/
def solveIndefiniteWrong : ChangeSpec := { name := "solveIndefinite", fn := fun _ => fun
  | [d1, d2, d3, d4, d5] => { results := [.lit (.bool false)], args := [d1, d2, d3, d4, d5] }
  | _ => none }
def SolveIndefiniteWrongFalsely : Prop := solveIndefiniteRow.holds Tryz.pinned (OpenSpec.ofChange solveIndefiniteWrong)

/- THE SECOND FORM. 'bulk': how many values and letters a reading holds, each counted each time it is reached (what is shared counts as often as it is met; a slice's spare places count too). A statement '..UptoSaid' is the law's where the arguments, and the package variables that the reading takes, are together of bulk at most 1048576: NARROWER than '..Said'. Prove '..Said' where nothing that the law and all that it calls make is longer than what came in: it says more and counts as full. Else prove '..UptoSaid'. A law counts once. -/
mutual
def uptoBulk {H : Type} : DataW H → Nat
  | .lit (.string bytes) => bytes.length + 1
  | .lit _ => 1
  | .nil => 1
  | .ptr d => uptoBulk d + 1
  | .slice elems spare => uptoBulkAll elems + uptoBulkAll spare + 1
  | .agg parts => uptoBulkAll parts + 1
  | .iface _ d => uptoBulk d + 1
  | .map entries => uptoBulkEntries entries + 1
  | .held _ => 1
def uptoBulkAll {H : Type} : List (DataW H) → Nat
  | [] => 0
  | d :: r => uptoBulk d + uptoBulkAll r
def uptoBulkEntries {H : Type} : List (Lit × DataW H) → Nat
  | [] => 0
  | x :: r => uptoBulkEntry x + uptoBulkEntries r
def uptoBulkEntry {H : Type} : Lit × DataW H → Nat
  | (.string bytes, d) => bytes.length + uptoBulk d + 1
  | (_, d) => uptoBulk d + 1
 end
def uptoSmall : (H : Type) → List (DataW H) → Bool := fun _ ds => decide (uptoBulkAll ds ≤ 1048576)
def OpenSpec.upto (s : _root_.Go.ChangeSpec) : _root_.Go.OpenSpec := { _root_.Go.OpenSpec.ofChange s with cond := some uptoSmall }

/-- 'sparselaw28.SolveErrors', WHERE WHAT IT READS IS OF BULK AT MOST 1048576: true; the input reads as it did. -/
def solveErrorsUptoRow : OpenClaim := { program := "ytjamnehcmaloeaagreatdoor", sum := "773a4a83b6611c17d54de5352e47978475748df47bbb5818da72b22cee8fc881", func := "sparse/sparselaw28.SolveErrors", spec := "solveErrors", unfollowed := true, recurses := true, named := ["math/bits.deBruijn32tab"], apart := false, laid := [("math/bits.deBruijn32tab", laid_math_bits_deBruijn32tab)], narrowed := true }
def SolveErrorsUptoSaid : Prop := solveErrorsUptoRow.holds Tryz.pinned (OpenSpec.upto solveErrorsSpec)

/-- 'sparselaw28.SolveExact', WHERE WHAT IT READS IS OF BULK AT MOST 1048576: true; the input reads as it did. -/
def solveExactUptoRow : OpenClaim := { program := "ytjamnehcmaloeaagreatdoor", sum := "773a4a83b6611c17d54de5352e47978475748df47bbb5818da72b22cee8fc881", func := "sparse/sparselaw28.SolveExact", spec := "solveExact", unfollowed := true, recurses := true, named := ["math/bits.deBruijn32tab"], apart := false, laid := [("math/bits.deBruijn32tab", laid_math_bits_deBruijn32tab)], narrowed := true }
def SolveExactUptoSaid : Prop := solveExactUptoRow.holds Tryz.pinned (OpenSpec.upto solveExactSpec)

/-- 'sparselaw28.SolveTriangular', WHERE WHAT IT READS IS OF BULK AT MOST 1048576: true; the input reads as it did. -/
def solveTriangularUptoRow : OpenClaim := { program := "ytjamnehcmaloeaagreatdoor", sum := "773a4a83b6611c17d54de5352e47978475748df47bbb5818da72b22cee8fc881", func := "sparse/sparselaw28.SolveTriangular", spec := "solveTriangular", unfollowed := true, recurses := true, named := ["math/bits.deBruijn32tab"], apart := false, laid := [("math/bits.deBruijn32tab", laid_math_bits_deBruijn32tab)], narrowed := true }
def SolveTriangularUptoSaid : Prop := solveTriangularUptoRow.holds Tryz.pinned (OpenSpec.upto solveTriangularSpec)

/-- 'sparselaw28.SolveDefinite', WHERE WHAT IT READS IS OF BULK AT MOST 1048576: true; the input reads as it did. -/
def solveDefiniteUptoRow : OpenClaim := { program := "ytjamnehcmaloeaagreatdoor", sum := "773a4a83b6611c17d54de5352e47978475748df47bbb5818da72b22cee8fc881", func := "sparse/sparselaw28.SolveDefinite", spec := "solveDefinite", unfollowed := true, recurses := true, named := ["math/bits.deBruijn32tab"], apart := false, laid := [("math/bits.deBruijn32tab", laid_math_bits_deBruijn32tab)], narrowed := true }
def SolveDefiniteUptoSaid : Prop := solveDefiniteUptoRow.holds Tryz.pinned (OpenSpec.upto solveDefiniteSpec)

/-- 'sparselaw28.SolveSparse', WHERE WHAT IT READS IS OF BULK AT MOST 1048576: true; the input reads as it did. -/
def solveSparseUptoRow : OpenClaim := { program := "ytjamnehcmaloeaagreatdoor", sum := "773a4a83b6611c17d54de5352e47978475748df47bbb5818da72b22cee8fc881", func := "sparse/sparselaw28.SolveSparse", spec := "solveSparse", unfollowed := true, recurses := true, named := ["math/bits.deBruijn32tab"], apart := false, laid := [("math/bits.deBruijn32tab", laid_math_bits_deBruijn32tab)], narrowed := true }
def SolveSparseUptoSaid : Prop := solveSparseUptoRow.holds Tryz.pinned (OpenSpec.upto solveSparseSpec)

/-- 'sparselaw28.SolveReach', WHERE WHAT IT READS IS OF BULK AT MOST 1048576: true; the input reads as it did. -/
def solveReachUptoRow : OpenClaim := { program := "ytjamnehcmaloeaagreatdoor", sum := "773a4a83b6611c17d54de5352e47978475748df47bbb5818da72b22cee8fc881", func := "sparse/sparselaw28.SolveReach", spec := "solveReach", unfollowed := true, recurses := true, named := ["math/bits.deBruijn32tab"], apart := false, laid := [("math/bits.deBruijn32tab", laid_math_bits_deBruijn32tab)], narrowed := true }
def SolveReachUptoSaid : Prop := solveReachUptoRow.holds Tryz.pinned (OpenSpec.upto solveReachSpec)

/-- 'sparselaw28.SolveGeneral', WHERE WHAT IT READS IS OF BULK AT MOST 1048576: true; the input reads as it did. -/
def solveGeneralUptoRow : OpenClaim := { program := "ytjamnehcmaloeaagreatdoor", sum := "773a4a83b6611c17d54de5352e47978475748df47bbb5818da72b22cee8fc881", func := "sparse/sparselaw28.SolveGeneral", spec := "solveGeneral", unfollowed := true, recurses := true, named := ["math/bits.deBruijn32tab"], apart := false, laid := [("math/bits.deBruijn32tab", laid_math_bits_deBruijn32tab)], narrowed := true }
def SolveGeneralUptoSaid : Prop := solveGeneralUptoRow.holds Tryz.pinned (OpenSpec.upto solveGeneralSpec)

/-- 'sparselaw28.SolveIndefinite', WHERE WHAT IT READS IS OF BULK AT MOST 1048576: true; the input reads as it did. -/
def solveIndefiniteUptoRow : OpenClaim := { program := "ytjamnehcmaloeaagreatdoor", sum := "773a4a83b6611c17d54de5352e47978475748df47bbb5818da72b22cee8fc881", func := "sparse/sparselaw28.SolveIndefinite", spec := "solveIndefinite", unfollowed := true, recurses := true, named := ["math/bits.deBruijn32tab"], apart := false, laid := [("math/bits.deBruijn32tab", laid_math_bits_deBruijn32tab)], narrowed := true }
def SolveIndefiniteUptoSaid : Prop := solveIndefiniteUptoRow.holds Tryz.pinned (OpenSpec.upto solveIndefiniteSpec)

end Rows
end Go.Proofs.YtjamnehcmaloeaaGreatDoor

/-
  NARROWER THAN 'FOR EVERY INPUT', by the rows' own cells (each row's printed sentence says how): SolveReach: laid · SolveGeneral: laid · KrylovGradients: laid · KrylovOthers: laid · KrylovRefuses: laid · KrylovExact: laid · KrylovSteps: laid · KrylovApplies: laid.
  DERIVED. THE GIVEN ROWS OF THIS SEAT. 8 by the template 'for every input the law returns true; each argument reads behind the call as it read before'; 0 by the template 'total and deterministic' (their statements: YtbcmhlhgljoolaaGreatDoorTotals.lean).
  GIVEN WITH THE SEED: the statements are not yours to turn. If you find one false, say at which input.
  Laid BY PROGRAM, IN A SANDBOX (cutbox-rows.mjs): the forced cells as the released guide's own fill.sh prints them over the translation 78c739195a9d19ec… (all of the seat's roots in one cut). By AI agents, Wed Nov 11 2026. No macro, syntax, notation, axiom, sorry.
-/
import Derived.Test.YtbcmhlhgljoolaaGreatDoorChecked
import GoSem.Claim
import GoSem.ClaimJoined
import GoSem.ClaimMapViews
import Derived.JoinedTies
import Derived.KernelRfl
namespace Go.Proofs.YtbcmhlhgljoolaaGreatDoor
/- THE CELL 'sum', in the pinned program and in every row, IS THE sha256 OF THE DUMP (.gsa) THAT YtbcmhlhgljoolaaGreatDoorProg.lean LOADS. Nothing in Lean hashes anything: it is a label: what it is worth is what the hold of that sum in a sandbox is worth. -/
noncomputable def Tryz.pinned : Pinned := { name := "ytbcmhlhgljoolaagreatdoor", sum := "78c739195a9d19ec53583022f43ec29c9950003df146fae6e34e5386ccaaee5a", checked := Tryz.checked }
namespace Rows
def none {H : Type} : Left H := { results := [], args := [] }

/- WHAT THE LISTED PACKAGE-LEVEL VARIABLES READ AS WHEN THE CALL BEGINS. Each datum BY PROGRAM (the guide's laid-datum.mjs) off the statement by which the dump's own 'gosem.cut.vars' lays the variable. In a bare row this is a premise. The card (YtbcmhlhgljoolaaGreatDoorCards.lean) ties it to the program's text. -/
def laid_math_bits_deBruijn32tab {H : Type} : DataW H := .agg [.lit (.int .u8 0), .lit (.int .u8 1), .lit (.int .u8 28), .lit (.int .u8 2), .lit (.int .u8 29), .lit (.int .u8 14), .lit (.int .u8 24), .lit (.int .u8 3), .lit (.int .u8 30), .lit (.int .u8 22), .lit (.int .u8 20), .lit (.int .u8 15), .lit (.int .u8 25), .lit (.int .u8 17), .lit (.int .u8 4), .lit (.int .u8 8), .lit (.int .u8 31), .lit (.int .u8 27), .lit (.int .u8 13), .lit (.int .u8 23), .lit (.int .u8 21), .lit (.int .u8 19), .lit (.int .u8 16), .lit (.int .u8 7), .lit (.int .u8 26), .lit (.int .u8 12), .lit (.int .u8 18), .lit (.int .u8 6), .lit (.int .u8 11), .lit (.int .u8 5), .lit (.int .u8 10), .lit (.int .u8 9)]

/-- 'sparselaw28.SolveReach': WHATEVER THE INPUT: true; the input reads as it did. -/
def solveReachSpec : ChangeSpec := { name := "solveReach", fn := fun _ => fun
  | [d1, d2, d3, d4] => { results := [.lit (.bool true)], args := [d1, d2, d3, d4] }
  | _ => none }
def solveReachRow : OpenClaim := { program := "ytbcmhlhgljoolaagreatdoor", sum := "78c739195a9d19ec53583022f43ec29c9950003df146fae6e34e5386ccaaee5a", func := "sparse/sparselaw28.SolveReach", spec := "solveReach", unfollowed := true, recurses := true, named := ["math/bits.deBruijn32tab"], apart := false, laid := [("math/bits.deBruijn32tab", laid_math_bits_deBruijn32tab)] }
def SolveReachSaid : Prop := solveReachRow.holds Tryz.pinned (OpenSpec.ofChange solveReachSpec)

/-- ITS FALSE NEIGHBOUR: 'it returns false'. Refute it at one input. -/
def solveReachWrong : ChangeSpec := { name := "solveReach", fn := fun _ => fun
  | [d1, d2, d3, d4] => { results := [.lit (.bool false)], args := [d1, d2, d3, d4] }
  | _ => none }
def SolveReachWrongFalsely : Prop := solveReachRow.holds Tryz.pinned (OpenSpec.ofChange solveReachWrong)

/-- 'sparselaw28.SolveGeneral': WHATEVER THE INPUT: true; the input reads as it did. -/
def solveGeneralSpec : ChangeSpec := { name := "solveGeneral", fn := fun _ => fun
  | [d1, d2, d3, d4, d5] => { results := [.lit (.bool true)], args := [d1, d2, d3, d4, d5] }
  | _ => none }
def solveGeneralRow : OpenClaim := { program := "ytbcmhlhgljoolaagreatdoor", sum := "78c739195a9d19ec53583022f43ec29c9950003df146fae6e34e5386ccaaee5a", func := "sparse/sparselaw28.SolveGeneral", spec := "solveGeneral", unfollowed := true, recurses := true, named := ["math/bits.deBruijn32tab"], apart := false, laid := [("math/bits.deBruijn32tab", laid_math_bits_deBruijn32tab)] }
def SolveGeneralSaid : Prop := solveGeneralRow.holds Tryz.pinned (OpenSpec.ofChange solveGeneralSpec)

/-- ITS FALSE NEIGHBOUR: 'it returns false'. Refute it at one input. -/
def solveGeneralWrong : ChangeSpec := { name := "solveGeneral", fn := fun _ => fun
  | [d1, d2, d3, d4, d5] => { results := [.lit (.bool false)], args := [d1, d2, d3, d4, d5] }
  | _ => none }
def SolveGeneralWrongFalsely : Prop := solveGeneralRow.holds Tryz.pinned (OpenSpec.ofChange solveGeneralWrong)

/-- 'sparselaw36.KrylovGradients': WHATEVER THE INPUT: true; the input reads as it did. -/
def krylovGradientsSpec : ChangeSpec := { name := "krylovGradients", fn := fun _ => fun
  | [d1, d2, d3, d4, d5] => { results := [.lit (.bool true)], args := [d1, d2, d3, d4, d5] }
  | _ => none }
def krylovGradientsRow : OpenClaim := { program := "ytbcmhlhgljoolaagreatdoor", sum := "78c739195a9d19ec53583022f43ec29c9950003df146fae6e34e5386ccaaee5a", func := "sparse/sparselaw36.KrylovGradients", spec := "krylovGradients", unfollowed := true, recurses := true, named := ["math/bits.deBruijn32tab"], apart := false, laid := [("math/bits.deBruijn32tab", laid_math_bits_deBruijn32tab)] }
def KrylovGradientsSaid : Prop := krylovGradientsRow.holds Tryz.pinned (OpenSpec.ofChange krylovGradientsSpec)

/-- ITS FALSE NEIGHBOUR: 'it returns false'. Refute it at one input. -/
def krylovGradientsWrong : ChangeSpec := { name := "krylovGradients", fn := fun _ => fun
  | [d1, d2, d3, d4, d5] => { results := [.lit (.bool false)], args := [d1, d2, d3, d4, d5] }
  | _ => none }
def KrylovGradientsWrongFalsely : Prop := krylovGradientsRow.holds Tryz.pinned (OpenSpec.ofChange krylovGradientsWrong)

/-- 'sparselaw36.KrylovOthers': WHATEVER THE INPUT: true; the input reads as it did. -/
def krylovOthersSpec : ChangeSpec := { name := "krylovOthers", fn := fun _ => fun
  | [d1, d2, d3, d4] => { results := [.lit (.bool true)], args := [d1, d2, d3, d4] }
  | _ => none }
def krylovOthersRow : OpenClaim := { program := "ytbcmhlhgljoolaagreatdoor", sum := "78c739195a9d19ec53583022f43ec29c9950003df146fae6e34e5386ccaaee5a", func := "sparse/sparselaw36.KrylovOthers", spec := "krylovOthers", unfollowed := true, recurses := true, named := ["math/bits.deBruijn32tab"], apart := false, laid := [("math/bits.deBruijn32tab", laid_math_bits_deBruijn32tab)] }
def KrylovOthersSaid : Prop := krylovOthersRow.holds Tryz.pinned (OpenSpec.ofChange krylovOthersSpec)

/-- ITS FALSE NEIGHBOUR: 'it returns false'. Refute it at one input. -/
def krylovOthersWrong : ChangeSpec := { name := "krylovOthers", fn := fun _ => fun
  | [d1, d2, d3, d4] => { results := [.lit (.bool false)], args := [d1, d2, d3, d4] }
  | _ => none }
def KrylovOthersWrongFalsely : Prop := krylovOthersRow.holds Tryz.pinned (OpenSpec.ofChange krylovOthersWrong)

/-- 'sparselaw36.KrylovRefuses': WHATEVER THE INPUT: true; the input reads as it did. -/
def krylovRefusesSpec : ChangeSpec := { name := "krylovRefuses", fn := fun _ => fun
  | [d1, d2, d3, d4, d5, d6, d7] => { results := [.lit (.bool true)], args := [d1, d2, d3, d4, d5, d6, d7] }
  | _ => none }
def krylovRefusesRow : OpenClaim := { program := "ytbcmhlhgljoolaagreatdoor", sum := "78c739195a9d19ec53583022f43ec29c9950003df146fae6e34e5386ccaaee5a", func := "sparse/sparselaw36.KrylovRefuses", spec := "krylovRefuses", unfollowed := true, recurses := true, named := ["math/bits.deBruijn32tab"], apart := false, laid := [("math/bits.deBruijn32tab", laid_math_bits_deBruijn32tab)] }
def KrylovRefusesSaid : Prop := krylovRefusesRow.holds Tryz.pinned (OpenSpec.ofChange krylovRefusesSpec)

/-- ITS FALSE NEIGHBOUR: 'it returns false'. Refute it at one input. -/
def krylovRefusesWrong : ChangeSpec := { name := "krylovRefuses", fn := fun _ => fun
  | [d1, d2, d3, d4, d5, d6, d7] => { results := [.lit (.bool false)], args := [d1, d2, d3, d4, d5, d6, d7] }
  | _ => none }
def KrylovRefusesWrongFalsely : Prop := krylovRefusesRow.holds Tryz.pinned (OpenSpec.ofChange krylovRefusesWrong)

/-- 'sparselaw36.KrylovExact': WHATEVER THE INPUT: true; the input reads as it did. -/
def krylovExactSpec : ChangeSpec := { name := "krylovExact", fn := fun _ => fun
  | [d1, d2] => { results := [.lit (.bool true)], args := [d1, d2] }
  | _ => none }
def krylovExactRow : OpenClaim := { program := "ytbcmhlhgljoolaagreatdoor", sum := "78c739195a9d19ec53583022f43ec29c9950003df146fae6e34e5386ccaaee5a", func := "sparse/sparselaw36.KrylovExact", spec := "krylovExact", unfollowed := true, recurses := true, named := ["math/bits.deBruijn32tab"], apart := false, laid := [("math/bits.deBruijn32tab", laid_math_bits_deBruijn32tab)] }
def KrylovExactSaid : Prop := krylovExactRow.holds Tryz.pinned (OpenSpec.ofChange krylovExactSpec)

/-- ITS FALSE NEIGHBOUR: 'it returns false'. Refute it at one input. -/
def krylovExactWrong : ChangeSpec := { name := "krylovExact", fn := fun _ => fun
  | [d1, d2] => { results := [.lit (.bool false)], args := [d1, d2] }
  | _ => none }
def KrylovExactWrongFalsely : Prop := krylovExactRow.holds Tryz.pinned (OpenSpec.ofChange krylovExactWrong)

/-- 'sparselaw36.KrylovSteps': WHATEVER THE INPUT: true; the input reads as it did. -/
def krylovStepsSpec : ChangeSpec := { name := "krylovSteps", fn := fun _ => fun
  | [d1, d2, d3, d4, d5] => { results := [.lit (.bool true)], args := [d1, d2, d3, d4, d5] }
  | _ => none }
def krylovStepsRow : OpenClaim := { program := "ytbcmhlhgljoolaagreatdoor", sum := "78c739195a9d19ec53583022f43ec29c9950003df146fae6e34e5386ccaaee5a", func := "sparse/sparselaw36.KrylovSteps", spec := "krylovSteps", unfollowed := true, recurses := true, named := ["math/bits.deBruijn32tab"], apart := false, laid := [("math/bits.deBruijn32tab", laid_math_bits_deBruijn32tab)] }
def KrylovStepsSaid : Prop := krylovStepsRow.holds Tryz.pinned (OpenSpec.ofChange krylovStepsSpec)

/-- ITS FALSE NEIGHBOUR: 'it returns false'. Refute it at one input. -/
def krylovStepsWrong : ChangeSpec := { name := "krylovSteps", fn := fun _ => fun
  | [d1, d2, d3, d4, d5] => { results := [.lit (.bool false)], args := [d1, d2, d3, d4, d5] }
  | _ => none }
def KrylovStepsWrongFalsely : Prop := krylovStepsRow.holds Tryz.pinned (OpenSpec.ofChange krylovStepsWrong)

/-- 'sparselaw36.KrylovApplies': WHATEVER THE INPUT: true; the input reads as it did. -/
def krylovAppliesSpec : ChangeSpec := { name := "krylovApplies", fn := fun _ => fun
  | [d1, d2, d3, d4, d5, d6] => { results := [.lit (.bool true)], args := [d1, d2, d3, d4, d5, d6] }
  | _ => none }
def krylovAppliesRow : OpenClaim := { program := "ytbcmhlhgljoolaagreatdoor", sum := "78c739195a9d19ec53583022f43ec29c9950003df146fae6e34e5386ccaaee5a", func := "sparse/sparselaw36.KrylovApplies", spec := "krylovApplies", unfollowed := true, recurses := true, named := ["math/bits.deBruijn32tab"], apart := false, laid := [("math/bits.deBruijn32tab", laid_math_bits_deBruijn32tab)] }
def KrylovAppliesSaid : Prop := krylovAppliesRow.holds Tryz.pinned (OpenSpec.ofChange krylovAppliesSpec)

/-- ITS FALSE NEIGHBOUR: 'it returns false'. Refute it at one input. -/
def krylovAppliesWrong : ChangeSpec := { name := "krylovApplies", fn := fun _ => fun
  | [d1, d2, d3, d4, d5, d6] => { results := [.lit (.bool false)], args := [d1, d2, d3, d4, d5, d6] }
  | _ => none }
def KrylovAppliesWrongFalsely : Prop := krylovAppliesRow.holds Tryz.pinned (OpenSpec.ofChange krylovAppliesWrong)

/- THE SECOND FORM. 'bulk': how many values and letters a reading holds, each counted each time it is reached (what is shared counts as often as it is met; a slice's spare places count too). A statement '..UptoSaid' is the law's where the arguments, and the package variables that the reading takes, are together of bulk at most 1048576: NARROWER than '..Said'. Prove '..Said' where nothing that the law and all that it calls make is longer than what came in: it says more and counts as full. Else prove '..UptoSaid'. A law counts once. -/
mutual
def uptoBulk {H : Type} : DataW H → Nat
  | .lit (.string bytes) => bytes.length + 1
  | .lit _ => 1
  | .nil => 1
  | .ptr d => uptoBulk d + 1
  | .slice elems spare => uptoBulkAll elems + uptoBulkAll spare + 1
  | .agg parts => uptoBulkAll parts + 1
  | .iface _ d => uptoBulk d + 1
  | .map entries => uptoBulkEntries entries + 1
  | .held _ => 1
def uptoBulkAll {H : Type} : List (DataW H) → Nat
  | [] => 0
  | d :: r => uptoBulk d + uptoBulkAll r
def uptoBulkEntries {H : Type} : List (Lit × DataW H) → Nat
  | [] => 0
  | x :: r => uptoBulkEntry x + uptoBulkEntries r
def uptoBulkEntry {H : Type} : Lit × DataW H → Nat
  | (.string bytes, d) => bytes.length + uptoBulk d + 1
  | (_, d) => uptoBulk d + 1
 end
def uptoSmall : (H : Type) → List (DataW H) → Bool := fun _ ds => decide (uptoBulkAll ds ≤ 1048576)
def OpenSpec.upto (s : _root_.Go.ChangeSpec) : _root_.Go.OpenSpec := { _root_.Go.OpenSpec.ofChange s with cond := some uptoSmall }

/-- 'sparselaw28.SolveReach', WHERE WHAT IT READS IS OF BULK AT MOST 1048576: true; the input reads as it did. -/
def solveReachUptoRow : OpenClaim := { program := "ytbcmhlhgljoolaagreatdoor", sum := "78c739195a9d19ec53583022f43ec29c9950003df146fae6e34e5386ccaaee5a", func := "sparse/sparselaw28.SolveReach", spec := "solveReach", unfollowed := true, recurses := true, named := ["math/bits.deBruijn32tab"], apart := false, laid := [("math/bits.deBruijn32tab", laid_math_bits_deBruijn32tab)], narrowed := true }
def SolveReachUptoSaid : Prop := solveReachUptoRow.holds Tryz.pinned (OpenSpec.upto solveReachSpec)

/-- 'sparselaw28.SolveGeneral', WHERE WHAT IT READS IS OF BULK AT MOST 1048576: true; the input reads as it did. -/
def solveGeneralUptoRow : OpenClaim := { program := "ytbcmhlhgljoolaagreatdoor", sum := "78c739195a9d19ec53583022f43ec29c9950003df146fae6e34e5386ccaaee5a", func := "sparse/sparselaw28.SolveGeneral", spec := "solveGeneral", unfollowed := true, recurses := true, named := ["math/bits.deBruijn32tab"], apart := false, laid := [("math/bits.deBruijn32tab", laid_math_bits_deBruijn32tab)], narrowed := true }
def SolveGeneralUptoSaid : Prop := solveGeneralUptoRow.holds Tryz.pinned (OpenSpec.upto solveGeneralSpec)

/-- 'sparselaw36.KrylovGradients', WHERE WHAT IT READS IS OF BULK AT MOST 1048576: true; the input reads as it did. -/
def krylovGradientsUptoRow : OpenClaim := { program := "ytbcmhlhgljoolaagreatdoor", sum := "78c739195a9d19ec53583022f43ec29c9950003df146fae6e34e5386ccaaee5a", func := "sparse/sparselaw36.KrylovGradients", spec := "krylovGradients", unfollowed := true, recurses := true, named := ["math/bits.deBruijn32tab"], apart := false, laid := [("math/bits.deBruijn32tab", laid_math_bits_deBruijn32tab)], narrowed := true }
def KrylovGradientsUptoSaid : Prop := krylovGradientsUptoRow.holds Tryz.pinned (OpenSpec.upto krylovGradientsSpec)

/-- 'sparselaw36.KrylovOthers', WHERE WHAT IT READS IS OF BULK AT MOST 1048576: true; the input reads as it did. -/
def krylovOthersUptoRow : OpenClaim := { program := "ytbcmhlhgljoolaagreatdoor", sum := "78c739195a9d19ec53583022f43ec29c9950003df146fae6e34e5386ccaaee5a", func := "sparse/sparselaw36.KrylovOthers", spec := "krylovOthers", unfollowed := true, recurses := true, named := ["math/bits.deBruijn32tab"], apart := false, laid := [("math/bits.deBruijn32tab", laid_math_bits_deBruijn32tab)], narrowed := true }
def KrylovOthersUptoSaid : Prop := krylovOthersUptoRow.holds Tryz.pinned (OpenSpec.upto krylovOthersSpec)

/-- 'sparselaw36.KrylovRefuses', WHERE WHAT IT READS IS OF BULK AT MOST 1048576: true; the input reads as it did. -/
def krylovRefusesUptoRow : OpenClaim := { program := "ytbcmhlhgljoolaagreatdoor", sum := "78c739195a9d19ec53583022f43ec29c9950003df146fae6e34e5386ccaaee5a", func := "sparse/sparselaw36.KrylovRefuses", spec := "krylovRefuses", unfollowed := true, recurses := true, named := ["math/bits.deBruijn32tab"], apart := false, laid := [("math/bits.deBruijn32tab", laid_math_bits_deBruijn32tab)], narrowed := true }
def KrylovRefusesUptoSaid : Prop := krylovRefusesUptoRow.holds Tryz.pinned (OpenSpec.upto krylovRefusesSpec)

/-- 'sparselaw36.KrylovExact', WHERE WHAT IT READS IS OF BULK AT MOST 1048576: true; the input reads as it did. -/
def krylovExactUptoRow : OpenClaim := { program := "ytbcmhlhgljoolaagreatdoor", sum := "78c739195a9d19ec53583022f43ec29c9950003df146fae6e34e5386ccaaee5a", func := "sparse/sparselaw36.KrylovExact", spec := "krylovExact", unfollowed := true, recurses := true, named := ["math/bits.deBruijn32tab"], apart := false, laid := [("math/bits.deBruijn32tab", laid_math_bits_deBruijn32tab)], narrowed := true }
def KrylovExactUptoSaid : Prop := krylovExactUptoRow.holds Tryz.pinned (OpenSpec.upto krylovExactSpec)

/-- 'sparselaw36.KrylovSteps', WHERE WHAT IT READS IS OF BULK AT MOST 1048576: true; the input reads as it did. -/
def krylovStepsUptoRow : OpenClaim := { program := "ytbcmhlhgljoolaagreatdoor", sum := "78c739195a9d19ec53583022f43ec29c9950003df146fae6e34e5386ccaaee5a", func := "sparse/sparselaw36.KrylovSteps", spec := "krylovSteps", unfollowed := true, recurses := true, named := ["math/bits.deBruijn32tab"], apart := false, laid := [("math/bits.deBruijn32tab", laid_math_bits_deBruijn32tab)], narrowed := true }
def KrylovStepsUptoSaid : Prop := krylovStepsUptoRow.holds Tryz.pinned (OpenSpec.upto krylovStepsSpec)

/-- 'sparselaw36.KrylovApplies', WHERE WHAT IT READS IS OF BULK AT MOST 1048576: true; the input reads as it did. -/
def krylovAppliesUptoRow : OpenClaim := { program := "ytbcmhlhgljoolaagreatdoor", sum := "78c739195a9d19ec53583022f43ec29c9950003df146fae6e34e5386ccaaee5a", func := "sparse/sparselaw36.KrylovApplies", spec := "krylovApplies", unfollowed := true, recurses := true, named := ["math/bits.deBruijn32tab"], apart := false, laid := [("math/bits.deBruijn32tab", laid_math_bits_deBruijn32tab)], narrowed := true }
def KrylovAppliesUptoSaid : Prop := krylovAppliesUptoRow.holds Tryz.pinned (OpenSpec.upto krylovAppliesSpec)

end Rows
end Go.Proofs.YtbcmhlhgljoolaaGreatDoor

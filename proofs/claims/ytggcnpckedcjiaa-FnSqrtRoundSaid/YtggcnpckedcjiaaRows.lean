/-
  No cell of these rows narrows 'for every input' (looked for: loops, veiled, ifaces, maps, wideKeys, modest, calm, conditions, laid).
  DERIVED. THE GIVEN ROWS OF THIS SEAT. 12 by the template 'for every input the law returns true; each argument reads behind the call as it read before'; 0 by the template 'total and deterministic' (their statements: YtggcnpckedcjiaaTotals.lean).
  GIVEN WITH THE SEED: the statements are not yours to turn. If you find one false, say at which input.
  Laid BY PROGRAM, IN A SANDBOX (cutbox-rows.mjs): the forced cells as the released guide's own fill.sh prints them over the translation 1cabc007c8298919… (all of the seat's roots in one cut). By AI agents, Wed Nov 11 2026. No macro, syntax, notation, axiom, sorry.
-/
import Derived.Test.YtggcnpckedcjiaaChecked
import GoSem.Claim
import GoSem.ClaimJoined
import GoSem.ClaimMapViews
import Derived.JoinedTies
import Derived.KernelRfl
namespace Go.Proofs.Ytggcnpckedcjiaa
/- THE CELL 'sum', in the pinned program and in every row, IS THE sha256 OF THE DUMP (.gsa) THAT YtggcnpckedcjiaaProg.lean LOADS. Nothing in Lean hashes anything: it is a label: what it is worth is what the hold of that sum in a sandbox is worth. -/
noncomputable def Try.pinned : Pinned := { name := "ytggcnpckedcjiaa", sum := "1cabc007c82989198debbaf878212aabce8bffd80aba7aed04d311def304d94b", checked := Try.checked }
namespace Rows
def none {H : Type} : Left H := { results := [], args := [] }

/-- 'laws.FnExactBitLength': WHATEVER THE INPUT: true; the input reads as it did. -/
def fnExactBitLengthSpec : ChangeSpec := { name := "fnExactBitLength", fn := fun _ => fun
  | [d] => { results := [.lit (.bool true)], args := [d] }
  | _ => none }
def fnExactBitLengthRow : OpenClaim := { program := "ytggcnpckedcjiaa", sum := "1cabc007c82989198debbaf878212aabce8bffd80aba7aed04d311def304d94b", func := "loop.example/fixedmath/laws.FnExactBitLength", spec := "fnExactBitLength", apart := false }
def FnExactBitLengthSaid : Prop := fnExactBitLengthRow.holds Try.pinned (OpenSpec.ofChange fnExactBitLengthSpec)

/-- ITS FALSE NEIGHBOUR: 'it returns false'. Refute it at one input. -/
def fnExactBitLengthWrong : ChangeSpec := { name := "fnExactBitLength", fn := fun _ => fun
  | [d] => { results := [.lit (.bool false)], args := [d] }
  | _ => none }
def FnExactBitLengthWrongFalsely : Prop := fnExactBitLengthRow.holds Try.pinned (OpenSpec.ofChange fnExactBitLengthWrong)

/-- 'laws.FnExactRoundShift': WHATEVER THE INPUT: true; the input reads as it did. -/
def fnExactRoundShiftSpec : ChangeSpec := { name := "fnExactRoundShift", fn := fun _ => fun
  | [d1, d2] => { results := [.lit (.bool true)], args := [d1, d2] }
  | _ => none }
def fnExactRoundShiftRow : OpenClaim := { program := "ytggcnpckedcjiaa", sum := "1cabc007c82989198debbaf878212aabce8bffd80aba7aed04d311def304d94b", func := "loop.example/fixedmath/laws.FnExactRoundShift", spec := "fnExactRoundShift", apart := false }
def FnExactRoundShiftSaid : Prop := fnExactRoundShiftRow.holds Try.pinned (OpenSpec.ofChange fnExactRoundShiftSpec)

/-- ITS FALSE NEIGHBOUR: 'it returns false'. Refute it at one input. -/
def fnExactRoundShiftWrong : ChangeSpec := { name := "fnExactRoundShift", fn := fun _ => fun
  | [d1, d2] => { results := [.lit (.bool false)], args := [d1, d2] }
  | _ => none }
def FnExactRoundShiftWrongFalsely : Prop := fnExactRoundShiftRow.holds Try.pinned (OpenSpec.ofChange fnExactRoundShiftWrong)

/-- 'laws.FnExactRoundDiv': WHATEVER THE INPUT: true; the input reads as it did. -/
def fnExactRoundDivSpec : ChangeSpec := { name := "fnExactRoundDiv", fn := fun _ => fun
  | [d1, d2] => { results := [.lit (.bool true)], args := [d1, d2] }
  | _ => none }
def fnExactRoundDivRow : OpenClaim := { program := "ytggcnpckedcjiaa", sum := "1cabc007c82989198debbaf878212aabce8bffd80aba7aed04d311def304d94b", func := "loop.example/fixedmath/laws.FnExactRoundDiv", spec := "fnExactRoundDiv", apart := false }
def FnExactRoundDivSaid : Prop := fnExactRoundDivRow.holds Try.pinned (OpenSpec.ofChange fnExactRoundDivSpec)

/-- ITS FALSE NEIGHBOUR: 'it returns false'. Refute it at one input. -/
def fnExactRoundDivWrong : ChangeSpec := { name := "fnExactRoundDiv", fn := fun _ => fun
  | [d1, d2] => { results := [.lit (.bool false)], args := [d1, d2] }
  | _ => none }
def FnExactRoundDivWrongFalsely : Prop := fnExactRoundDivRow.holds Try.pinned (OpenSpec.ofChange fnExactRoundDivWrong)

/-- 'laws.FnExactCubeFloor': WHATEVER THE INPUT: true; the input reads as it did. -/
def fnExactCubeFloorSpec : ChangeSpec := { name := "fnExactCubeFloor", fn := fun _ => fun
  | [d] => { results := [.lit (.bool true)], args := [d] }
  | _ => none }
def fnExactCubeFloorRow : OpenClaim := { program := "ytggcnpckedcjiaa", sum := "1cabc007c82989198debbaf878212aabce8bffd80aba7aed04d311def304d94b", func := "loop.example/fixedmath/laws.FnExactCubeFloor", spec := "fnExactCubeFloor", apart := false }
def FnExactCubeFloorSaid : Prop := fnExactCubeFloorRow.holds Try.pinned (OpenSpec.ofChange fnExactCubeFloorSpec)

/-- ITS FALSE NEIGHBOUR: 'it returns false'. Refute it at one input. -/
def fnExactCubeFloorWrong : ChangeSpec := { name := "fnExactCubeFloor", fn := fun _ => fun
  | [d] => { results := [.lit (.bool false)], args := [d] }
  | _ => none }
def FnExactCubeFloorWrongFalsely : Prop := fnExactCubeFloorRow.holds Try.pinned (OpenSpec.ofChange fnExactCubeFloorWrong)

/-- 'laws.FnExactSqrtFloor': WHATEVER THE INPUT: true; the input reads as it did. -/
def fnExactSqrtFloorSpec : ChangeSpec := { name := "fnExactSqrtFloor", fn := fun _ => fun
  | [d] => { results := [.lit (.bool true)], args := [d] }
  | _ => none }
def fnExactSqrtFloorRow : OpenClaim := { program := "ytggcnpckedcjiaa", sum := "1cabc007c82989198debbaf878212aabce8bffd80aba7aed04d311def304d94b", func := "loop.example/fixedmath/laws.FnExactSqrtFloor", spec := "fnExactSqrtFloor", apart := false }
def FnExactSqrtFloorSaid : Prop := fnExactSqrtFloorRow.holds Try.pinned (OpenSpec.ofChange fnExactSqrtFloorSpec)

/-- ITS FALSE NEIGHBOUR: 'it returns false'. Refute it at one input. -/
def fnExactSqrtFloorWrong : ChangeSpec := { name := "fnExactSqrtFloor", fn := fun _ => fun
  | [d] => { results := [.lit (.bool false)], args := [d] }
  | _ => none }
def FnExactSqrtFloorWrongFalsely : Prop := fnExactSqrtFloorRow.holds Try.pinned (OpenSpec.ofChange fnExactSqrtFloorWrong)

/-- 'laws.FnExactSqrtRound': WHATEVER THE INPUT: true; the input reads as it did. -/
def fnExactSqrtRoundSpec : ChangeSpec := { name := "fnExactSqrtRound", fn := fun _ => fun
  | [d] => { results := [.lit (.bool true)], args := [d] }
  | _ => none }
def fnExactSqrtRoundRow : OpenClaim := { program := "ytggcnpckedcjiaa", sum := "1cabc007c82989198debbaf878212aabce8bffd80aba7aed04d311def304d94b", func := "loop.example/fixedmath/laws.FnExactSqrtRound", spec := "fnExactSqrtRound", apart := false }
def FnExactSqrtRoundSaid : Prop := fnExactSqrtRoundRow.holds Try.pinned (OpenSpec.ofChange fnExactSqrtRoundSpec)

/-- ITS FALSE NEIGHBOUR: 'it returns false'. Refute it at one input. -/
def fnExactSqrtRoundWrong : ChangeSpec := { name := "fnExactSqrtRound", fn := fun _ => fun
  | [d] => { results := [.lit (.bool false)], args := [d] }
  | _ => none }
def FnExactSqrtRoundWrongFalsely : Prop := fnExactSqrtRoundRow.holds Try.pinned (OpenSpec.ofChange fnExactSqrtRoundWrong)

/-- 'laws.FnBitLength': WHATEVER THE INPUT: true; the input reads as it did. -/
def fnBitLengthSpec : ChangeSpec := { name := "fnBitLength", fn := fun _ => fun
  | [d] => { results := [.lit (.bool true)], args := [d] }
  | _ => none }
def fnBitLengthRow : OpenClaim := { program := "ytggcnpckedcjiaa", sum := "1cabc007c82989198debbaf878212aabce8bffd80aba7aed04d311def304d94b", func := "loop.example/fixedmath/laws.FnBitLength", spec := "fnBitLength", apart := false }
def FnBitLengthSaid : Prop := fnBitLengthRow.holds Try.pinned (OpenSpec.ofChange fnBitLengthSpec)

/-- ITS FALSE NEIGHBOUR: 'it returns false'. Refute it at one input. -/
def fnBitLengthWrong : ChangeSpec := { name := "fnBitLength", fn := fun _ => fun
  | [d] => { results := [.lit (.bool false)], args := [d] }
  | _ => none }
def FnBitLengthWrongFalsely : Prop := fnBitLengthRow.holds Try.pinned (OpenSpec.ofChange fnBitLengthWrong)

/-- 'laws.FnCubeFloor': WHATEVER THE INPUT: true; the input reads as it did. -/
def fnCubeFloorSpec : ChangeSpec := { name := "fnCubeFloor", fn := fun _ => fun
  | [d] => { results := [.lit (.bool true)], args := [d] }
  | _ => none }
def fnCubeFloorRow : OpenClaim := { program := "ytggcnpckedcjiaa", sum := "1cabc007c82989198debbaf878212aabce8bffd80aba7aed04d311def304d94b", func := "loop.example/fixedmath/laws.FnCubeFloor", spec := "fnCubeFloor", apart := false }
def FnCubeFloorSaid : Prop := fnCubeFloorRow.holds Try.pinned (OpenSpec.ofChange fnCubeFloorSpec)

/-- ITS FALSE NEIGHBOUR: 'it returns false'. Refute it at one input. -/
def fnCubeFloorWrong : ChangeSpec := { name := "fnCubeFloor", fn := fun _ => fun
  | [d] => { results := [.lit (.bool false)], args := [d] }
  | _ => none }
def FnCubeFloorWrongFalsely : Prop := fnCubeFloorRow.holds Try.pinned (OpenSpec.ofChange fnCubeFloorWrong)

/-- 'laws.FnSqrtRound': WHATEVER THE INPUT: true; the input reads as it did. -/
def fnSqrtRoundSpec : ChangeSpec := { name := "fnSqrtRound", fn := fun _ => fun
  | [d] => { results := [.lit (.bool true)], args := [d] }
  | _ => none }
def fnSqrtRoundRow : OpenClaim := { program := "ytggcnpckedcjiaa", sum := "1cabc007c82989198debbaf878212aabce8bffd80aba7aed04d311def304d94b", func := "loop.example/fixedmath/laws.FnSqrtRound", spec := "fnSqrtRound", apart := false }
def FnSqrtRoundSaid : Prop := fnSqrtRoundRow.holds Try.pinned (OpenSpec.ofChange fnSqrtRoundSpec)

/-- ITS FALSE NEIGHBOUR: 'it returns false'. Refute it at one input. -/
def fnSqrtRoundWrong : ChangeSpec := { name := "fnSqrtRound", fn := fun _ => fun
  | [d] => { results := [.lit (.bool false)], args := [d] }
  | _ => none }
def FnSqrtRoundWrongFalsely : Prop := fnSqrtRoundRow.holds Try.pinned (OpenSpec.ofChange fnSqrtRoundWrong)

/-- 'laws.FnRootPower': WHATEVER THE INPUT: true; the input reads as it did. -/
def fnRootPowerSpec : ChangeSpec := { name := "fnRootPower", fn := fun _ => fun
  | [d] => { results := [.lit (.bool true)], args := [d] }
  | _ => none }
def fnRootPowerRow : OpenClaim := { program := "ytggcnpckedcjiaa", sum := "1cabc007c82989198debbaf878212aabce8bffd80aba7aed04d311def304d94b", func := "loop.example/fixedmath/laws.FnRootPower", spec := "fnRootPower", apart := false }
def FnRootPowerSaid : Prop := fnRootPowerRow.holds Try.pinned (OpenSpec.ofChange fnRootPowerSpec)

/-- ITS FALSE NEIGHBOUR: 'it returns false'. Refute it at one input. -/
def fnRootPowerWrong : ChangeSpec := { name := "fnRootPower", fn := fun _ => fun
  | [d] => { results := [.lit (.bool false)], args := [d] }
  | _ => none }
def FnRootPowerWrongFalsely : Prop := fnRootPowerRow.holds Try.pinned (OpenSpec.ofChange fnRootPowerWrong)

/-- 'laws.FnQuarterOf': WHATEVER THE INPUT: true; the input reads as it did. -/
def fnQuarterOfSpec : ChangeSpec := { name := "fnQuarterOf", fn := fun _ => fun
  | [d] => { results := [.lit (.bool true)], args := [d] }
  | _ => none }
def fnQuarterOfRow : OpenClaim := { program := "ytggcnpckedcjiaa", sum := "1cabc007c82989198debbaf878212aabce8bffd80aba7aed04d311def304d94b", func := "loop.example/fixedmath/laws.FnQuarterOf", spec := "fnQuarterOf", apart := false }
def FnQuarterOfSaid : Prop := fnQuarterOfRow.holds Try.pinned (OpenSpec.ofChange fnQuarterOfSpec)

/-- ITS FALSE NEIGHBOUR: 'it returns false'. Refute it at one input. -/
def fnQuarterOfWrong : ChangeSpec := { name := "fnQuarterOf", fn := fun _ => fun
  | [d] => { results := [.lit (.bool false)], args := [d] }
  | _ => none }
def FnQuarterOfWrongFalsely : Prop := fnQuarterOfRow.holds Try.pinned (OpenSpec.ofChange fnQuarterOfWrong)

/-- 'laws.FnFoldAngle': WHATEVER THE INPUT: true; the input reads as it did. -/
def fnFoldAngleSpec : ChangeSpec := { name := "fnFoldAngle", fn := fun _ => fun
  | [d] => { results := [.lit (.bool true)], args := [d] }
  | _ => none }
def fnFoldAngleRow : OpenClaim := { program := "ytggcnpckedcjiaa", sum := "1cabc007c82989198debbaf878212aabce8bffd80aba7aed04d311def304d94b", func := "loop.example/fixedmath/laws.FnFoldAngle", spec := "fnFoldAngle", apart := false }
def FnFoldAngleSaid : Prop := fnFoldAngleRow.holds Try.pinned (OpenSpec.ofChange fnFoldAngleSpec)

/-- ITS FALSE NEIGHBOUR: 'it returns false'. Refute it at one input. -/
def fnFoldAngleWrong : ChangeSpec := { name := "fnFoldAngle", fn := fun _ => fun
  | [d] => { results := [.lit (.bool false)], args := [d] }
  | _ => none }
def FnFoldAngleWrongFalsely : Prop := fnFoldAngleRow.holds Try.pinned (OpenSpec.ofChange fnFoldAngleWrong)

/- THE SECOND FORM. 'bulk': how many values and letters a reading holds, each counted each time it is reached (what is shared counts as often as it is met; a slice's spare places count too). A statement '..UptoSaid' is the law's where the arguments, and the package variables that the reading takes, are together of bulk at most 1048576: NARROWER than '..Said'. Prove '..Said' where nothing that the law and all that it calls make is longer than what came in: it says more and counts as full. Else prove '..UptoSaid'. A law counts once. -/
mutual
def uptoBulk {H : Type} : DataW H → Nat
  | .lit (.string bytes) => bytes.length + 1
  | .lit _ => 1
  | .nil => 1
  | .ptr d => uptoBulk d + 1
  | .slice elems spare => uptoBulkAll elems + uptoBulkAll spare + 1
  | .agg parts => uptoBulkAll parts + 1
  | .iface _ d => uptoBulk d + 1
  | .map entries => uptoBulkEntries entries + 1
  | .held _ => 1
def uptoBulkAll {H : Type} : List (DataW H) → Nat
  | [] => 0
  | d :: r => uptoBulk d + uptoBulkAll r
def uptoBulkEntries {H : Type} : List (Lit × DataW H) → Nat
  | [] => 0
  | x :: r => uptoBulkEntry x + uptoBulkEntries r
def uptoBulkEntry {H : Type} : Lit × DataW H → Nat
  | (.string bytes, d) => bytes.length + uptoBulk d + 1
  | (_, d) => uptoBulk d + 1
 end
def uptoSmall : (H : Type) → List (DataW H) → Bool := fun _ ds => decide (uptoBulkAll ds ≤ 1048576)
def OpenSpec.upto (s : _root_.Go.ChangeSpec) : _root_.Go.OpenSpec := { _root_.Go.OpenSpec.ofChange s with cond := some uptoSmall }

/-- 'laws.FnExactBitLength', WHERE WHAT IT READS IS OF BULK AT MOST 1048576: true; the input reads as it did. -/
def fnExactBitLengthUptoRow : OpenClaim := { program := "ytggcnpckedcjiaa", sum := "1cabc007c82989198debbaf878212aabce8bffd80aba7aed04d311def304d94b", func := "loop.example/fixedmath/laws.FnExactBitLength", spec := "fnExactBitLength", apart := false, narrowed := true }
def FnExactBitLengthUptoSaid : Prop := fnExactBitLengthUptoRow.holds Try.pinned (OpenSpec.upto fnExactBitLengthSpec)

/-- 'laws.FnExactRoundShift', WHERE WHAT IT READS IS OF BULK AT MOST 1048576: true; the input reads as it did. -/
def fnExactRoundShiftUptoRow : OpenClaim := { program := "ytggcnpckedcjiaa", sum := "1cabc007c82989198debbaf878212aabce8bffd80aba7aed04d311def304d94b", func := "loop.example/fixedmath/laws.FnExactRoundShift", spec := "fnExactRoundShift", apart := false, narrowed := true }
def FnExactRoundShiftUptoSaid : Prop := fnExactRoundShiftUptoRow.holds Try.pinned (OpenSpec.upto fnExactRoundShiftSpec)

/-- 'laws.FnExactRoundDiv', WHERE WHAT IT READS IS OF BULK AT MOST 1048576: true; the input reads as it did. -/
def fnExactRoundDivUptoRow : OpenClaim := { program := "ytggcnpckedcjiaa", sum := "1cabc007c82989198debbaf878212aabce8bffd80aba7aed04d311def304d94b", func := "loop.example/fixedmath/laws.FnExactRoundDiv", spec := "fnExactRoundDiv", apart := false, narrowed := true }
def FnExactRoundDivUptoSaid : Prop := fnExactRoundDivUptoRow.holds Try.pinned (OpenSpec.upto fnExactRoundDivSpec)

/-- 'laws.FnExactCubeFloor', WHERE WHAT IT READS IS OF BULK AT MOST 1048576: true; the input reads as it did. -/
def fnExactCubeFloorUptoRow : OpenClaim := { program := "ytggcnpckedcjiaa", sum := "1cabc007c82989198debbaf878212aabce8bffd80aba7aed04d311def304d94b", func := "loop.example/fixedmath/laws.FnExactCubeFloor", spec := "fnExactCubeFloor", apart := false, narrowed := true }
def FnExactCubeFloorUptoSaid : Prop := fnExactCubeFloorUptoRow.holds Try.pinned (OpenSpec.upto fnExactCubeFloorSpec)

/-- 'laws.FnExactSqrtFloor', WHERE WHAT IT READS IS OF BULK AT MOST 1048576: true; the input reads as it did. -/
def fnExactSqrtFloorUptoRow : OpenClaim := { program := "ytggcnpckedcjiaa", sum := "1cabc007c82989198debbaf878212aabce8bffd80aba7aed04d311def304d94b", func := "loop.example/fixedmath/laws.FnExactSqrtFloor", spec := "fnExactSqrtFloor", apart := false, narrowed := true }
def FnExactSqrtFloorUptoSaid : Prop := fnExactSqrtFloorUptoRow.holds Try.pinned (OpenSpec.upto fnExactSqrtFloorSpec)

/-- 'laws.FnExactSqrtRound', WHERE WHAT IT READS IS OF BULK AT MOST 1048576: true; the input reads as it did. -/
def fnExactSqrtRoundUptoRow : OpenClaim := { program := "ytggcnpckedcjiaa", sum := "1cabc007c82989198debbaf878212aabce8bffd80aba7aed04d311def304d94b", func := "loop.example/fixedmath/laws.FnExactSqrtRound", spec := "fnExactSqrtRound", apart := false, narrowed := true }
def FnExactSqrtRoundUptoSaid : Prop := fnExactSqrtRoundUptoRow.holds Try.pinned (OpenSpec.upto fnExactSqrtRoundSpec)

/-- 'laws.FnBitLength', WHERE WHAT IT READS IS OF BULK AT MOST 1048576: true; the input reads as it did. -/
def fnBitLengthUptoRow : OpenClaim := { program := "ytggcnpckedcjiaa", sum := "1cabc007c82989198debbaf878212aabce8bffd80aba7aed04d311def304d94b", func := "loop.example/fixedmath/laws.FnBitLength", spec := "fnBitLength", apart := false, narrowed := true }
def FnBitLengthUptoSaid : Prop := fnBitLengthUptoRow.holds Try.pinned (OpenSpec.upto fnBitLengthSpec)

/-- 'laws.FnCubeFloor', WHERE WHAT IT READS IS OF BULK AT MOST 1048576: true; the input reads as it did. -/
def fnCubeFloorUptoRow : OpenClaim := { program := "ytggcnpckedcjiaa", sum := "1cabc007c82989198debbaf878212aabce8bffd80aba7aed04d311def304d94b", func := "loop.example/fixedmath/laws.FnCubeFloor", spec := "fnCubeFloor", apart := false, narrowed := true }
def FnCubeFloorUptoSaid : Prop := fnCubeFloorUptoRow.holds Try.pinned (OpenSpec.upto fnCubeFloorSpec)

/-- 'laws.FnSqrtRound', WHERE WHAT IT READS IS OF BULK AT MOST 1048576: true; the input reads as it did. -/
def fnSqrtRoundUptoRow : OpenClaim := { program := "ytggcnpckedcjiaa", sum := "1cabc007c82989198debbaf878212aabce8bffd80aba7aed04d311def304d94b", func := "loop.example/fixedmath/laws.FnSqrtRound", spec := "fnSqrtRound", apart := false, narrowed := true }
def FnSqrtRoundUptoSaid : Prop := fnSqrtRoundUptoRow.holds Try.pinned (OpenSpec.upto fnSqrtRoundSpec)

/-- 'laws.FnRootPower', WHERE WHAT IT READS IS OF BULK AT MOST 1048576: true; the input reads as it did. -/
def fnRootPowerUptoRow : OpenClaim := { program := "ytggcnpckedcjiaa", sum := "1cabc007c82989198debbaf878212aabce8bffd80aba7aed04d311def304d94b", func := "loop.example/fixedmath/laws.FnRootPower", spec := "fnRootPower", apart := false, narrowed := true }
def FnRootPowerUptoSaid : Prop := fnRootPowerUptoRow.holds Try.pinned (OpenSpec.upto fnRootPowerSpec)

/-- 'laws.FnQuarterOf', WHERE WHAT IT READS IS OF BULK AT MOST 1048576: true; the input reads as it did. -/
def fnQuarterOfUptoRow : OpenClaim := { program := "ytggcnpckedcjiaa", sum := "1cabc007c82989198debbaf878212aabce8bffd80aba7aed04d311def304d94b", func := "loop.example/fixedmath/laws.FnQuarterOf", spec := "fnQuarterOf", apart := false, narrowed := true }
def FnQuarterOfUptoSaid : Prop := fnQuarterOfUptoRow.holds Try.pinned (OpenSpec.upto fnQuarterOfSpec)

/-- 'laws.FnFoldAngle', WHERE WHAT IT READS IS OF BULK AT MOST 1048576: true; the input reads as it did. -/
def fnFoldAngleUptoRow : OpenClaim := { program := "ytggcnpckedcjiaa", sum := "1cabc007c82989198debbaf878212aabce8bffd80aba7aed04d311def304d94b", func := "loop.example/fixedmath/laws.FnFoldAngle", spec := "fnFoldAngle", apart := false, narrowed := true }
def FnFoldAngleUptoSaid : Prop := fnFoldAngleUptoRow.holds Try.pinned (OpenSpec.upto fnFoldAngleSpec)

end Rows
end Go.Proofs.Ytggcnpckedcjiaa

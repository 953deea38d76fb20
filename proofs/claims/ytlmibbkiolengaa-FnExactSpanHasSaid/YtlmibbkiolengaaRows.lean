/-
  No cell of these rows narrows 'for every input' (looked for: loops, veiled, ifaces, maps, wideKeys, modest, calm, conditions, laid).
  DERIVED. THE GIVEN ROWS OF THIS SEAT. 11 by the template 'for every input the law returns true; each argument reads behind the call as it read before'; 0 by the template 'total and deterministic' (their statements: YtlmibbkiolengaaTotals.lean).
  GIVEN WITH THE SEED: the statements are not yours to turn. If you find one false, say at which input.
  Laid BY PROGRAM, IN A SANDBOX (cutbox-rows.mjs): the forced cells as the released guide's own fill.sh prints them over the translation d9b07d8aaa617ebb… (all of the seat's roots in one cut). By AI agents, Wed Nov 11 2026. No macro, syntax, notation, axiom, sorry.
-/
import Derived.Test.YtlmibbkiolengaaChecked
import GoSem.Claim
import GoSem.ClaimJoined
import GoSem.ClaimMapViews
import Derived.JoinedTies
import Derived.KernelRfl
namespace Go.Proofs.Ytlmibbkiolengaa
/- THE CELL 'sum', in the pinned program and in every row, IS THE sha256 OF THE DUMP (.gsa) THAT YtlmibbkiolengaaProg.lean LOADS. Nothing in Lean hashes anything: it is a label: what it is worth is what the hold of that sum in a sandbox is worth. -/
noncomputable def Try.pinned : Pinned := { name := "ytlmibbkiolengaa", sum := "d9b07d8aaa617ebb485c8616c0a8de4507d1b3d569cf6c5fd4cbf1626d125394", checked := Try.checked }
namespace Rows
def none {H : Type} : Left H := { results := [], args := [] }

/-- 'laws.FnExactConstants': WHATEVER THE INPUT: true; the input reads as it did. -/
def fnExactConstantsSpec : ChangeSpec := { name := "fnExactConstants", fn := fun _ => fun
  | [] => { results := [.lit (.bool true)], args := [] }
  | _ => none }
def fnExactConstantsRow : OpenClaim := { program := "ytlmibbkiolengaa", sum := "d9b07d8aaa617ebb485c8616c0a8de4507d1b3d569cf6c5fd4cbf1626d125394", func := "loop.example/fixedmath/laws.FnExactConstants", spec := "fnExactConstants", apart := false }
def FnExactConstantsSaid : Prop := fnExactConstantsRow.holds Try.pinned (OpenSpec.ofChange fnExactConstantsSpec)

/-- ITS FALSE NEIGHBOUR: 'it returns false'. Refute it at one input. -/
def fnExactConstantsWrong : ChangeSpec := { name := "fnExactConstants", fn := fun _ => fun
  | [] => { results := [.lit (.bool false)], args := [] }
  | _ => none }
def FnExactConstantsWrongFalsely : Prop := fnExactConstantsRow.holds Try.pinned (OpenSpec.ofChange fnExactConstantsWrong)

/-- 'laws.FnExactQuarterOf': WHATEVER THE INPUT: true; the input reads as it did. -/
def fnExactQuarterOfSpec : ChangeSpec := { name := "fnExactQuarterOf", fn := fun _ => fun
  | [d] => { results := [.lit (.bool true)], args := [d] }
  | _ => none }
def fnExactQuarterOfRow : OpenClaim := { program := "ytlmibbkiolengaa", sum := "d9b07d8aaa617ebb485c8616c0a8de4507d1b3d569cf6c5fd4cbf1626d125394", func := "loop.example/fixedmath/laws.FnExactQuarterOf", spec := "fnExactQuarterOf", apart := false }
def FnExactQuarterOfSaid : Prop := fnExactQuarterOfRow.holds Try.pinned (OpenSpec.ofChange fnExactQuarterOfSpec)

/-- ITS FALSE NEIGHBOUR: 'it returns false'. Refute it at one input. -/
def fnExactQuarterOfWrong : ChangeSpec := { name := "fnExactQuarterOf", fn := fun _ => fun
  | [d] => { results := [.lit (.bool false)], args := [d] }
  | _ => none }
def FnExactQuarterOfWrongFalsely : Prop := fnExactQuarterOfRow.holds Try.pinned (OpenSpec.ofChange fnExactQuarterOfWrong)

/-- 'laws.FnExactFormatValid': WHATEVER THE INPUT: true; the input reads as it did. -/
def fnExactFormatValidSpec : ChangeSpec := { name := "fnExactFormatValid", fn := fun _ => fun
  | [d] => { results := [.lit (.bool true)], args := [d] }
  | _ => none }
def fnExactFormatValidRow : OpenClaim := { program := "ytlmibbkiolengaa", sum := "d9b07d8aaa617ebb485c8616c0a8de4507d1b3d569cf6c5fd4cbf1626d125394", func := "loop.example/fixedmath/laws.FnExactFormatValid", spec := "fnExactFormatValid", apart := false }
def FnExactFormatValidSaid : Prop := fnExactFormatValidRow.holds Try.pinned (OpenSpec.ofChange fnExactFormatValidSpec)

/-- ITS FALSE NEIGHBOUR: 'it returns false'. Refute it at one input. -/
def fnExactFormatValidWrong : ChangeSpec := { name := "fnExactFormatValid", fn := fun _ => fun
  | [d] => { results := [.lit (.bool false)], args := [d] }
  | _ => none }
def FnExactFormatValidWrongFalsely : Prop := fnExactFormatValidRow.holds Try.pinned (OpenSpec.ofChange fnExactFormatValidWrong)

/-- 'laws.FnExactSpanValid': WHATEVER THE INPUT: true; the input reads as it did. -/
def fnExactSpanValidSpec : ChangeSpec := { name := "fnExactSpanValid", fn := fun _ => fun
  | [d] => { results := [.lit (.bool true)], args := [d] }
  | _ => none }
def fnExactSpanValidRow : OpenClaim := { program := "ytlmibbkiolengaa", sum := "d9b07d8aaa617ebb485c8616c0a8de4507d1b3d569cf6c5fd4cbf1626d125394", func := "loop.example/fixedmath/laws.FnExactSpanValid", spec := "fnExactSpanValid", apart := false }
def FnExactSpanValidSaid : Prop := fnExactSpanValidRow.holds Try.pinned (OpenSpec.ofChange fnExactSpanValidSpec)

/-- ITS FALSE NEIGHBOUR: 'it returns false'. Refute it at one input. -/
def fnExactSpanValidWrong : ChangeSpec := { name := "fnExactSpanValid", fn := fun _ => fun
  | [d] => { results := [.lit (.bool false)], args := [d] }
  | _ => none }
def FnExactSpanValidWrongFalsely : Prop := fnExactSpanValidRow.holds Try.pinned (OpenSpec.ofChange fnExactSpanValidWrong)

/-- 'laws.FnExactFoldAngle': WHATEVER THE INPUT: true; the input reads as it did. -/
def fnExactFoldAngleSpec : ChangeSpec := { name := "fnExactFoldAngle", fn := fun _ => fun
  | [d] => { results := [.lit (.bool true)], args := [d] }
  | _ => none }
def fnExactFoldAngleRow : OpenClaim := { program := "ytlmibbkiolengaa", sum := "d9b07d8aaa617ebb485c8616c0a8de4507d1b3d569cf6c5fd4cbf1626d125394", func := "loop.example/fixedmath/laws.FnExactFoldAngle", spec := "fnExactFoldAngle", apart := false }
def FnExactFoldAngleSaid : Prop := fnExactFoldAngleRow.holds Try.pinned (OpenSpec.ofChange fnExactFoldAngleSpec)

/-- ITS FALSE NEIGHBOUR: 'it returns false'. Refute it at one input. -/
def fnExactFoldAngleWrong : ChangeSpec := { name := "fnExactFoldAngle", fn := fun _ => fun
  | [d] => { results := [.lit (.bool false)], args := [d] }
  | _ => none }
def FnExactFoldAngleWrongFalsely : Prop := fnExactFoldAngleRow.holds Try.pinned (OpenSpec.ofChange fnExactFoldAngleWrong)

/-- 'laws.FnExactSpanHas': WHATEVER THE INPUT: true; the input reads as it did. -/
def fnExactSpanHasSpec : ChangeSpec := { name := "fnExactSpanHas", fn := fun _ => fun
  | [d1, d2] => { results := [.lit (.bool true)], args := [d1, d2] }
  | _ => none }
def fnExactSpanHasRow : OpenClaim := { program := "ytlmibbkiolengaa", sum := "d9b07d8aaa617ebb485c8616c0a8de4507d1b3d569cf6c5fd4cbf1626d125394", func := "loop.example/fixedmath/laws.FnExactSpanHas", spec := "fnExactSpanHas", apart := false }
def FnExactSpanHasSaid : Prop := fnExactSpanHasRow.holds Try.pinned (OpenSpec.ofChange fnExactSpanHasSpec)

/-- ITS FALSE NEIGHBOUR: 'it returns false'. Refute it at one input. -/
def fnExactSpanHasWrong : ChangeSpec := { name := "fnExactSpanHas", fn := fun _ => fun
  | [d1, d2] => { results := [.lit (.bool false)], args := [d1, d2] }
  | _ => none }
def FnExactSpanHasWrongFalsely : Prop := fnExactSpanHasRow.holds Try.pinned (OpenSpec.ofChange fnExactSpanHasWrong)

/-- 'laws.FnExactOneOf': WHATEVER THE INPUT: true; the input reads as it did. -/
def fnExactOneOfSpec : ChangeSpec := { name := "fnExactOneOf", fn := fun _ => fun
  | [d] => { results := [.lit (.bool true)], args := [d] }
  | _ => none }
def fnExactOneOfRow : OpenClaim := { program := "ytlmibbkiolengaa", sum := "d9b07d8aaa617ebb485c8616c0a8de4507d1b3d569cf6c5fd4cbf1626d125394", func := "loop.example/fixedmath/laws.FnExactOneOf", spec := "fnExactOneOf", apart := false }
def FnExactOneOfSaid : Prop := fnExactOneOfRow.holds Try.pinned (OpenSpec.ofChange fnExactOneOfSpec)

/-- ITS FALSE NEIGHBOUR: 'it returns false'. Refute it at one input. -/
def fnExactOneOfWrong : ChangeSpec := { name := "fnExactOneOf", fn := fun _ => fun
  | [d] => { results := [.lit (.bool false)], args := [d] }
  | _ => none }
def FnExactOneOfWrongFalsely : Prop := fnExactOneOfRow.holds Try.pinned (OpenSpec.ofChange fnExactOneOfWrong)

/-- 'laws.FnExactFloorShift': WHATEVER THE INPUT: true; the input reads as it did. -/
def fnExactFloorShiftSpec : ChangeSpec := { name := "fnExactFloorShift", fn := fun _ => fun
  | [d1, d2] => { results := [.lit (.bool true)], args := [d1, d2] }
  | _ => none }
def fnExactFloorShiftRow : OpenClaim := { program := "ytlmibbkiolengaa", sum := "d9b07d8aaa617ebb485c8616c0a8de4507d1b3d569cf6c5fd4cbf1626d125394", func := "loop.example/fixedmath/laws.FnExactFloorShift", spec := "fnExactFloorShift", apart := false }
def FnExactFloorShiftSaid : Prop := fnExactFloorShiftRow.holds Try.pinned (OpenSpec.ofChange fnExactFloorShiftSpec)

/-- ITS FALSE NEIGHBOUR: 'it returns false'. Refute it at one input. -/
def fnExactFloorShiftWrong : ChangeSpec := { name := "fnExactFloorShift", fn := fun _ => fun
  | [d1, d2] => { results := [.lit (.bool false)], args := [d1, d2] }
  | _ => none }
def FnExactFloorShiftWrongFalsely : Prop := fnExactFloorShiftRow.holds Try.pinned (OpenSpec.ofChange fnExactFloorShiftWrong)

/-- 'laws.FnExactWrapAngle': WHATEVER THE INPUT: true; the input reads as it did. -/
def fnExactWrapAngleSpec : ChangeSpec := { name := "fnExactWrapAngle", fn := fun _ => fun
  | [d] => { results := [.lit (.bool true)], args := [d] }
  | _ => none }
def fnExactWrapAngleRow : OpenClaim := { program := "ytlmibbkiolengaa", sum := "d9b07d8aaa617ebb485c8616c0a8de4507d1b3d569cf6c5fd4cbf1626d125394", func := "loop.example/fixedmath/laws.FnExactWrapAngle", spec := "fnExactWrapAngle", apart := false }
def FnExactWrapAngleSaid : Prop := fnExactWrapAngleRow.holds Try.pinned (OpenSpec.ofChange fnExactWrapAngleSpec)

/-- ITS FALSE NEIGHBOUR: 'it returns false'. Refute it at one input. -/
def fnExactWrapAngleWrong : ChangeSpec := { name := "fnExactWrapAngle", fn := fun _ => fun
  | [d] => { results := [.lit (.bool false)], args := [d] }
  | _ => none }
def FnExactWrapAngleWrongFalsely : Prop := fnExactWrapAngleRow.holds Try.pinned (OpenSpec.ofChange fnExactWrapAngleWrong)

/-- 'laws.FnExactStoredFits': WHATEVER THE INPUT: true; the input reads as it did. -/
def fnExactStoredFitsSpec : ChangeSpec := { name := "fnExactStoredFits", fn := fun _ => fun
  | [d1, d2] => { results := [.lit (.bool true)], args := [d1, d2] }
  | _ => none }
def fnExactStoredFitsRow : OpenClaim := { program := "ytlmibbkiolengaa", sum := "d9b07d8aaa617ebb485c8616c0a8de4507d1b3d569cf6c5fd4cbf1626d125394", func := "loop.example/fixedmath/laws.FnExactStoredFits", spec := "fnExactStoredFits", apart := false }
def FnExactStoredFitsSaid : Prop := fnExactStoredFitsRow.holds Try.pinned (OpenSpec.ofChange fnExactStoredFitsSpec)

/-- ITS FALSE NEIGHBOUR: 'it returns false'. Refute it at one input. -/
def fnExactStoredFitsWrong : ChangeSpec := { name := "fnExactStoredFits", fn := fun _ => fun
  | [d1, d2] => { results := [.lit (.bool false)], args := [d1, d2] }
  | _ => none }
def FnExactStoredFitsWrongFalsely : Prop := fnExactStoredFitsRow.holds Try.pinned (OpenSpec.ofChange fnExactStoredFitsWrong)

/-- 'laws.FnExactFloorDiv': WHATEVER THE INPUT: true; the input reads as it did. -/
def fnExactFloorDivSpec : ChangeSpec := { name := "fnExactFloorDiv", fn := fun _ => fun
  | [d1, d2] => { results := [.lit (.bool true)], args := [d1, d2] }
  | _ => none }
def fnExactFloorDivRow : OpenClaim := { program := "ytlmibbkiolengaa", sum := "d9b07d8aaa617ebb485c8616c0a8de4507d1b3d569cf6c5fd4cbf1626d125394", func := "loop.example/fixedmath/laws.FnExactFloorDiv", spec := "fnExactFloorDiv", apart := false }
def FnExactFloorDivSaid : Prop := fnExactFloorDivRow.holds Try.pinned (OpenSpec.ofChange fnExactFloorDivSpec)

/-- ITS FALSE NEIGHBOUR: 'it returns false'. Refute it at one input. -/
def fnExactFloorDivWrong : ChangeSpec := { name := "fnExactFloorDiv", fn := fun _ => fun
  | [d1, d2] => { results := [.lit (.bool false)], args := [d1, d2] }
  | _ => none }
def FnExactFloorDivWrongFalsely : Prop := fnExactFloorDivRow.holds Try.pinned (OpenSpec.ofChange fnExactFloorDivWrong)

/- THE SECOND FORM. 'bulk': how many values and letters a reading holds, each counted each time it is reached (what is shared counts as often as it is met; a slice's spare places count too). A statement '..UptoSaid' is the law's where the arguments, and the package variables that the reading takes, are together of bulk at most 1048576: NARROWER than '..Said'. Prove '..Said' where nothing that the law and all that it calls make is longer than what came in: it says more and counts as full. Else prove '..UptoSaid'. A law counts once. -/
mutual
def uptoBulk {H : Type} : DataW H → Nat
  | .lit (.string bytes) => bytes.length + 1
  | .lit _ => 1
  | .nil => 1
  | .ptr d => uptoBulk d + 1
  | .slice elems spare => uptoBulkAll elems + uptoBulkAll spare + 1
  | .agg parts => uptoBulkAll parts + 1
  | .iface _ d => uptoBulk d + 1
  | .map entries => uptoBulkEntries entries + 1
  | .held _ => 1
def uptoBulkAll {H : Type} : List (DataW H) → Nat
  | [] => 0
  | d :: r => uptoBulk d + uptoBulkAll r
def uptoBulkEntries {H : Type} : List (Lit × DataW H) → Nat
  | [] => 0
  | x :: r => uptoBulkEntry x + uptoBulkEntries r
def uptoBulkEntry {H : Type} : Lit × DataW H → Nat
  | (.string bytes, d) => bytes.length + uptoBulk d + 1
  | (_, d) => uptoBulk d + 1
 end
def uptoSmall : (H : Type) → List (DataW H) → Bool := fun _ ds => decide (uptoBulkAll ds ≤ 1048576)
def OpenSpec.upto (s : _root_.Go.ChangeSpec) : _root_.Go.OpenSpec := { _root_.Go.OpenSpec.ofChange s with cond := some uptoSmall }

/-- 'laws.FnExactConstants', WHERE WHAT IT READS IS OF BULK AT MOST 1048576: true; the input reads as it did. -/
def fnExactConstantsUptoRow : OpenClaim := { program := "ytlmibbkiolengaa", sum := "d9b07d8aaa617ebb485c8616c0a8de4507d1b3d569cf6c5fd4cbf1626d125394", func := "loop.example/fixedmath/laws.FnExactConstants", spec := "fnExactConstants", apart := false, narrowed := true }
def FnExactConstantsUptoSaid : Prop := fnExactConstantsUptoRow.holds Try.pinned (OpenSpec.upto fnExactConstantsSpec)

/-- 'laws.FnExactQuarterOf', WHERE WHAT IT READS IS OF BULK AT MOST 1048576: true; the input reads as it did. -/
def fnExactQuarterOfUptoRow : OpenClaim := { program := "ytlmibbkiolengaa", sum := "d9b07d8aaa617ebb485c8616c0a8de4507d1b3d569cf6c5fd4cbf1626d125394", func := "loop.example/fixedmath/laws.FnExactQuarterOf", spec := "fnExactQuarterOf", apart := false, narrowed := true }
def FnExactQuarterOfUptoSaid : Prop := fnExactQuarterOfUptoRow.holds Try.pinned (OpenSpec.upto fnExactQuarterOfSpec)

/-- 'laws.FnExactFormatValid', WHERE WHAT IT READS IS OF BULK AT MOST 1048576: true; the input reads as it did. -/
def fnExactFormatValidUptoRow : OpenClaim := { program := "ytlmibbkiolengaa", sum := "d9b07d8aaa617ebb485c8616c0a8de4507d1b3d569cf6c5fd4cbf1626d125394", func := "loop.example/fixedmath/laws.FnExactFormatValid", spec := "fnExactFormatValid", apart := false, narrowed := true }
def FnExactFormatValidUptoSaid : Prop := fnExactFormatValidUptoRow.holds Try.pinned (OpenSpec.upto fnExactFormatValidSpec)

/-- 'laws.FnExactSpanValid', WHERE WHAT IT READS IS OF BULK AT MOST 1048576: true; the input reads as it did. -/
def fnExactSpanValidUptoRow : OpenClaim := { program := "ytlmibbkiolengaa", sum := "d9b07d8aaa617ebb485c8616c0a8de4507d1b3d569cf6c5fd4cbf1626d125394", func := "loop.example/fixedmath/laws.FnExactSpanValid", spec := "fnExactSpanValid", apart := false, narrowed := true }
def FnExactSpanValidUptoSaid : Prop := fnExactSpanValidUptoRow.holds Try.pinned (OpenSpec.upto fnExactSpanValidSpec)

/-- 'laws.FnExactFoldAngle', WHERE WHAT IT READS IS OF BULK AT MOST 1048576: true; the input reads as it did. -/
def fnExactFoldAngleUptoRow : OpenClaim := { program := "ytlmibbkiolengaa", sum := "d9b07d8aaa617ebb485c8616c0a8de4507d1b3d569cf6c5fd4cbf1626d125394", func := "loop.example/fixedmath/laws.FnExactFoldAngle", spec := "fnExactFoldAngle", apart := false, narrowed := true }
def FnExactFoldAngleUptoSaid : Prop := fnExactFoldAngleUptoRow.holds Try.pinned (OpenSpec.upto fnExactFoldAngleSpec)

/-- 'laws.FnExactSpanHas', WHERE WHAT IT READS IS OF BULK AT MOST 1048576: true; the input reads as it did. -/
def fnExactSpanHasUptoRow : OpenClaim := { program := "ytlmibbkiolengaa", sum := "d9b07d8aaa617ebb485c8616c0a8de4507d1b3d569cf6c5fd4cbf1626d125394", func := "loop.example/fixedmath/laws.FnExactSpanHas", spec := "fnExactSpanHas", apart := false, narrowed := true }
def FnExactSpanHasUptoSaid : Prop := fnExactSpanHasUptoRow.holds Try.pinned (OpenSpec.upto fnExactSpanHasSpec)

/-- 'laws.FnExactOneOf', WHERE WHAT IT READS IS OF BULK AT MOST 1048576: true; the input reads as it did. -/
def fnExactOneOfUptoRow : OpenClaim := { program := "ytlmibbkiolengaa", sum := "d9b07d8aaa617ebb485c8616c0a8de4507d1b3d569cf6c5fd4cbf1626d125394", func := "loop.example/fixedmath/laws.FnExactOneOf", spec := "fnExactOneOf", apart := false, narrowed := true }
def FnExactOneOfUptoSaid : Prop := fnExactOneOfUptoRow.holds Try.pinned (OpenSpec.upto fnExactOneOfSpec)

/-- 'laws.FnExactFloorShift', WHERE WHAT IT READS IS OF BULK AT MOST 1048576: true; the input reads as it did. -/
def fnExactFloorShiftUptoRow : OpenClaim := { program := "ytlmibbkiolengaa", sum := "d9b07d8aaa617ebb485c8616c0a8de4507d1b3d569cf6c5fd4cbf1626d125394", func := "loop.example/fixedmath/laws.FnExactFloorShift", spec := "fnExactFloorShift", apart := false, narrowed := true }
def FnExactFloorShiftUptoSaid : Prop := fnExactFloorShiftUptoRow.holds Try.pinned (OpenSpec.upto fnExactFloorShiftSpec)

/-- 'laws.FnExactWrapAngle', WHERE WHAT IT READS IS OF BULK AT MOST 1048576: true; the input reads as it did. -/
def fnExactWrapAngleUptoRow : OpenClaim := { program := "ytlmibbkiolengaa", sum := "d9b07d8aaa617ebb485c8616c0a8de4507d1b3d569cf6c5fd4cbf1626d125394", func := "loop.example/fixedmath/laws.FnExactWrapAngle", spec := "fnExactWrapAngle", apart := false, narrowed := true }
def FnExactWrapAngleUptoSaid : Prop := fnExactWrapAngleUptoRow.holds Try.pinned (OpenSpec.upto fnExactWrapAngleSpec)

/-- 'laws.FnExactStoredFits', WHERE WHAT IT READS IS OF BULK AT MOST 1048576: true; the input reads as it did. -/
def fnExactStoredFitsUptoRow : OpenClaim := { program := "ytlmibbkiolengaa", sum := "d9b07d8aaa617ebb485c8616c0a8de4507d1b3d569cf6c5fd4cbf1626d125394", func := "loop.example/fixedmath/laws.FnExactStoredFits", spec := "fnExactStoredFits", apart := false, narrowed := true }
def FnExactStoredFitsUptoSaid : Prop := fnExactStoredFitsUptoRow.holds Try.pinned (OpenSpec.upto fnExactStoredFitsSpec)

/-- 'laws.FnExactFloorDiv', WHERE WHAT IT READS IS OF BULK AT MOST 1048576: true; the input reads as it did. -/
def fnExactFloorDivUptoRow : OpenClaim := { program := "ytlmibbkiolengaa", sum := "d9b07d8aaa617ebb485c8616c0a8de4507d1b3d569cf6c5fd4cbf1626d125394", func := "loop.example/fixedmath/laws.FnExactFloorDiv", spec := "fnExactFloorDiv", apart := false, narrowed := true }
def FnExactFloorDivUptoSaid : Prop := fnExactFloorDivUptoRow.holds Try.pinned (OpenSpec.upto fnExactFloorDivSpec)

end Rows
end Go.Proofs.Ytlmibbkiolengaa

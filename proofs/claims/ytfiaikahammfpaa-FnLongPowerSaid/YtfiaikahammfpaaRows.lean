/-
  No cell of these rows narrows 'for every input' (looked for: loops, veiled, ifaces, maps, wideKeys, modest, calm, conditions, laid).
  DERIVED. THE GIVEN ROWS OF THIS SEAT. 6 by the template 'for every input the law returns true; each argument reads behind the call as it read before'; 0 by the template 'total and deterministic' (their statements: YtfiaikahammfpaaTotals.lean).
  GIVEN WITH THE SEED: the statements are not yours to turn. If you find one false, say at which input.
  Laid BY PROGRAM, IN A SANDBOX (cutbox-rows.mjs): the forced cells as the released guide's own fill.sh prints them over the translation 829aa7f100985ee5… (all of the seat's roots in one cut). By AI agents, Wed Nov 11 2026. No macro, syntax, notation, axiom, sorry.
-/
import Derived.Test.YtfiaikahammfpaaChecked
import GoSem.Claim
import GoSem.ClaimJoined
import GoSem.ClaimMapViews
import Derived.JoinedTies
import Derived.KernelRfl
namespace Go.Proofs.Ytfiaikahammfpaa
/- THE CELL 'sum', in the pinned program and in every row, IS THE sha256 OF THE DUMP (.gsa) THAT YtfiaikahammfpaaProg.lean LOADS. Nothing in Lean hashes anything: it is a label: what it is worth is what the hold of that sum in a sandbox is worth. -/
noncomputable def Try.pinned : Pinned := { name := "ytfiaikahammfpaa", sum := "829aa7f100985ee5d06db46c83d1ce3c59609ada1ca0dcc5dbdd8a511497a367", checked := Try.checked }
namespace Rows
def none {H : Type} : Left H := { results := [], args := [] }

/-- 'laws.FnExactLongMul': WHATEVER THE INPUT: true; the input reads as it did. -/
def fnExactLongMulSpec : ChangeSpec := { name := "fnExactLongMul", fn := fun _ => fun
  | [d1, d2] => { results := [.lit (.bool true)], args := [d1, d2] }
  | _ => none }
def fnExactLongMulRow : OpenClaim := { program := "ytfiaikahammfpaa", sum := "829aa7f100985ee5d06db46c83d1ce3c59609ada1ca0dcc5dbdd8a511497a367", func := "loop.example/fixedmath/laws.FnExactLongMul", spec := "fnExactLongMul", apart := false }
def FnExactLongMulSaid : Prop := fnExactLongMulRow.holds Try.pinned (OpenSpec.ofChange fnExactLongMulSpec)

/-- ITS FALSE NEIGHBOUR: 'it returns false'. Refute it at one input. -/
def fnExactLongMulWrong : ChangeSpec := { name := "fnExactLongMul", fn := fun _ => fun
  | [d1, d2] => { results := [.lit (.bool false)], args := [d1, d2] }
  | _ => none }
def FnExactLongMulWrongFalsely : Prop := fnExactLongMulRow.holds Try.pinned (OpenSpec.ofChange fnExactLongMulWrong)

/-- 'laws.FnLongMul': WHATEVER THE INPUT: true; the input reads as it did. -/
def fnLongMulSpec : ChangeSpec := { name := "fnLongMul", fn := fun _ => fun
  | [d] => { results := [.lit (.bool true)], args := [d] }
  | _ => none }
def fnLongMulRow : OpenClaim := { program := "ytfiaikahammfpaa", sum := "829aa7f100985ee5d06db46c83d1ce3c59609ada1ca0dcc5dbdd8a511497a367", func := "loop.example/fixedmath/laws.FnLongMul", spec := "fnLongMul", apart := false }
def FnLongMulSaid : Prop := fnLongMulRow.holds Try.pinned (OpenSpec.ofChange fnLongMulSpec)

/-- ITS FALSE NEIGHBOUR: 'it returns false'. Refute it at one input. -/
def fnLongMulWrong : ChangeSpec := { name := "fnLongMul", fn := fun _ => fun
  | [d] => { results := [.lit (.bool false)], args := [d] }
  | _ => none }
def FnLongMulWrongFalsely : Prop := fnLongMulRow.holds Try.pinned (OpenSpec.ofChange fnLongMulWrong)

/-- 'laws.FnExactLongPower': WHATEVER THE INPUT: true; the input reads as it did. -/
def fnExactLongPowerSpec : ChangeSpec := { name := "fnExactLongPower", fn := fun _ => fun
  | [d1, d2] => { results := [.lit (.bool true)], args := [d1, d2] }
  | _ => none }
def fnExactLongPowerRow : OpenClaim := { program := "ytfiaikahammfpaa", sum := "829aa7f100985ee5d06db46c83d1ce3c59609ada1ca0dcc5dbdd8a511497a367", func := "loop.example/fixedmath/laws.FnExactLongPower", spec := "fnExactLongPower", apart := false }
def FnExactLongPowerSaid : Prop := fnExactLongPowerRow.holds Try.pinned (OpenSpec.ofChange fnExactLongPowerSpec)

/-- ITS FALSE NEIGHBOUR: 'it returns false'. Refute it at one input. -/
def fnExactLongPowerWrong : ChangeSpec := { name := "fnExactLongPower", fn := fun _ => fun
  | [d1, d2] => { results := [.lit (.bool false)], args := [d1, d2] }
  | _ => none }
def FnExactLongPowerWrongFalsely : Prop := fnExactLongPowerRow.holds Try.pinned (OpenSpec.ofChange fnExactLongPowerWrong)

/-- 'laws.FnLongPower': WHATEVER THE INPUT: true; the input reads as it did. -/
def fnLongPowerSpec : ChangeSpec := { name := "fnLongPower", fn := fun _ => fun
  | [d] => { results := [.lit (.bool true)], args := [d] }
  | _ => none }
def fnLongPowerRow : OpenClaim := { program := "ytfiaikahammfpaa", sum := "829aa7f100985ee5d06db46c83d1ce3c59609ada1ca0dcc5dbdd8a511497a367", func := "loop.example/fixedmath/laws.FnLongPower", spec := "fnLongPower", apart := false }
def FnLongPowerSaid : Prop := fnLongPowerRow.holds Try.pinned (OpenSpec.ofChange fnLongPowerSpec)

/-- ITS FALSE NEIGHBOUR: 'it returns false'. Refute it at one input. -/
def fnLongPowerWrong : ChangeSpec := { name := "fnLongPower", fn := fun _ => fun
  | [d] => { results := [.lit (.bool false)], args := [d] }
  | _ => none }
def FnLongPowerWrongFalsely : Prop := fnLongPowerRow.holds Try.pinned (OpenSpec.ofChange fnLongPowerWrong)

/-- 'laws.FnLongRoot': WHATEVER THE INPUT: true; the input reads as it did. -/
def fnLongRootSpec : ChangeSpec := { name := "fnLongRoot", fn := fun _ => fun
  | [d] => { results := [.lit (.bool true)], args := [d] }
  | _ => none }
def fnLongRootRow : OpenClaim := { program := "ytfiaikahammfpaa", sum := "829aa7f100985ee5d06db46c83d1ce3c59609ada1ca0dcc5dbdd8a511497a367", func := "loop.example/fixedmath/laws.FnLongRoot", spec := "fnLongRoot", apart := false }
def FnLongRootSaid : Prop := fnLongRootRow.holds Try.pinned (OpenSpec.ofChange fnLongRootSpec)

/-- ITS FALSE NEIGHBOUR: 'it returns false'. Refute it at one input. -/
def fnLongRootWrong : ChangeSpec := { name := "fnLongRoot", fn := fun _ => fun
  | [d] => { results := [.lit (.bool false)], args := [d] }
  | _ => none }
def FnLongRootWrongFalsely : Prop := fnLongRootRow.holds Try.pinned (OpenSpec.ofChange fnLongRootWrong)

/-- 'laws.FnLongSmall': WHATEVER THE INPUT: true; the input reads as it did. -/
def fnLongSmallSpec : ChangeSpec := { name := "fnLongSmall", fn := fun _ => fun
  | [d1, d2] => { results := [.lit (.bool true)], args := [d1, d2] }
  | _ => none }
def fnLongSmallRow : OpenClaim := { program := "ytfiaikahammfpaa", sum := "829aa7f100985ee5d06db46c83d1ce3c59609ada1ca0dcc5dbdd8a511497a367", func := "loop.example/fixedmath/laws.FnLongSmall", spec := "fnLongSmall", apart := false }
def FnLongSmallSaid : Prop := fnLongSmallRow.holds Try.pinned (OpenSpec.ofChange fnLongSmallSpec)

/-- ITS FALSE NEIGHBOUR: 'it returns false'. Refute it at one input. -/
def fnLongSmallWrong : ChangeSpec := { name := "fnLongSmall", fn := fun _ => fun
  | [d1, d2] => { results := [.lit (.bool false)], args := [d1, d2] }
  | _ => none }
def FnLongSmallWrongFalsely : Prop := fnLongSmallRow.holds Try.pinned (OpenSpec.ofChange fnLongSmallWrong)

/- THE SECOND FORM. 'bulk': how many values and letters a reading holds, each counted each time it is reached (what is shared counts as often as it is met; a slice's spare places count too). A statement '..UptoSaid' is the law's where the arguments, and the package variables that the reading takes, are together of bulk at most 1048576: NARROWER than '..Said'. Prove '..Said' where nothing that the law and all that it calls make is longer than what came in: it says more and counts as full. Else prove '..UptoSaid'. A law counts once. -/
mutual
def uptoBulk {H : Type} : DataW H → Nat
  | .lit (.string bytes) => bytes.length + 1
  | .lit _ => 1
  | .nil => 1
  | .ptr d => uptoBulk d + 1
  | .slice elems spare => uptoBulkAll elems + uptoBulkAll spare + 1
  | .agg parts => uptoBulkAll parts + 1
  | .iface _ d => uptoBulk d + 1
  | .map entries => uptoBulkEntries entries + 1
  | .held _ => 1
def uptoBulkAll {H : Type} : List (DataW H) → Nat
  | [] => 0
  | d :: r => uptoBulk d + uptoBulkAll r
def uptoBulkEntries {H : Type} : List (Lit × DataW H) → Nat
  | [] => 0
  | x :: r => uptoBulkEntry x + uptoBulkEntries r
def uptoBulkEntry {H : Type} : Lit × DataW H → Nat
  | (.string bytes, d) => bytes.length + uptoBulk d + 1
  | (_, d) => uptoBulk d + 1
 end
def uptoSmall : (H : Type) → List (DataW H) → Bool := fun _ ds => decide (uptoBulkAll ds ≤ 1048576)
def OpenSpec.upto (s : _root_.Go.ChangeSpec) : _root_.Go.OpenSpec := { _root_.Go.OpenSpec.ofChange s with cond := some uptoSmall }

/-- 'laws.FnExactLongMul', WHERE WHAT IT READS IS OF BULK AT MOST 1048576: true; the input reads as it did. -/
def fnExactLongMulUptoRow : OpenClaim := { program := "ytfiaikahammfpaa", sum := "829aa7f100985ee5d06db46c83d1ce3c59609ada1ca0dcc5dbdd8a511497a367", func := "loop.example/fixedmath/laws.FnExactLongMul", spec := "fnExactLongMul", apart := false, narrowed := true }
def FnExactLongMulUptoSaid : Prop := fnExactLongMulUptoRow.holds Try.pinned (OpenSpec.upto fnExactLongMulSpec)

/-- 'laws.FnLongMul', WHERE WHAT IT READS IS OF BULK AT MOST 1048576: true; the input reads as it did. -/
def fnLongMulUptoRow : OpenClaim := { program := "ytfiaikahammfpaa", sum := "829aa7f100985ee5d06db46c83d1ce3c59609ada1ca0dcc5dbdd8a511497a367", func := "loop.example/fixedmath/laws.FnLongMul", spec := "fnLongMul", apart := false, narrowed := true }
def FnLongMulUptoSaid : Prop := fnLongMulUptoRow.holds Try.pinned (OpenSpec.upto fnLongMulSpec)

/-- 'laws.FnExactLongPower', WHERE WHAT IT READS IS OF BULK AT MOST 1048576: true; the input reads as it did. -/
def fnExactLongPowerUptoRow : OpenClaim := { program := "ytfiaikahammfpaa", sum := "829aa7f100985ee5d06db46c83d1ce3c59609ada1ca0dcc5dbdd8a511497a367", func := "loop.example/fixedmath/laws.FnExactLongPower", spec := "fnExactLongPower", apart := false, narrowed := true }
def FnExactLongPowerUptoSaid : Prop := fnExactLongPowerUptoRow.holds Try.pinned (OpenSpec.upto fnExactLongPowerSpec)

/-- 'laws.FnLongPower', WHERE WHAT IT READS IS OF BULK AT MOST 1048576: true; the input reads as it did. -/
def fnLongPowerUptoRow : OpenClaim := { program := "ytfiaikahammfpaa", sum := "829aa7f100985ee5d06db46c83d1ce3c59609ada1ca0dcc5dbdd8a511497a367", func := "loop.example/fixedmath/laws.FnLongPower", spec := "fnLongPower", apart := false, narrowed := true }
def FnLongPowerUptoSaid : Prop := fnLongPowerUptoRow.holds Try.pinned (OpenSpec.upto fnLongPowerSpec)

/-- 'laws.FnLongRoot', WHERE WHAT IT READS IS OF BULK AT MOST 1048576: true; the input reads as it did. -/
def fnLongRootUptoRow : OpenClaim := { program := "ytfiaikahammfpaa", sum := "829aa7f100985ee5d06db46c83d1ce3c59609ada1ca0dcc5dbdd8a511497a367", func := "loop.example/fixedmath/laws.FnLongRoot", spec := "fnLongRoot", apart := false, narrowed := true }
def FnLongRootUptoSaid : Prop := fnLongRootUptoRow.holds Try.pinned (OpenSpec.upto fnLongRootSpec)

/-- 'laws.FnLongSmall', WHERE WHAT IT READS IS OF BULK AT MOST 1048576: true; the input reads as it did. -/
def fnLongSmallUptoRow : OpenClaim := { program := "ytfiaikahammfpaa", sum := "829aa7f100985ee5d06db46c83d1ce3c59609ada1ca0dcc5dbdd8a511497a367", func := "loop.example/fixedmath/laws.FnLongSmall", spec := "fnLongSmall", apart := false, narrowed := true }
def FnLongSmallUptoSaid : Prop := fnLongSmallUptoRow.holds Try.pinned (OpenSpec.upto fnLongSmallSpec)

end Rows
end Go.Proofs.Ytfiaikahammfpaa

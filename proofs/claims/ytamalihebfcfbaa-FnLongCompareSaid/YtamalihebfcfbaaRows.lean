/-
  No cell of these rows narrows 'for every input' (looked for: loops, veiled, ifaces, maps, wideKeys, modest, calm, conditions, laid).
  DERIVED. THE GIVEN ROWS OF THIS SEAT. 8 by the template 'for every input the law returns true; each argument reads behind the call as it read before'; 0 by the template 'total and deterministic' (their statements: YtamalihebfcfbaaTotals.lean).
  GIVEN WITH THE SEED: the statements are not yours to turn. If you find one false, say at which input.
  Laid BY PROGRAM, IN A SANDBOX (cutbox-rows.mjs): the forced cells as the released guide's own fill.sh prints them over the translation c346a4be83d5f855… (all of the seat's roots in one cut). By AI agents, Wed Nov 11 2026. No macro, syntax, notation, axiom, sorry.
-/
import Derived.Test.YtamalihebfcfbaaChecked
import GoSem.Claim
import GoSem.ClaimJoined
import GoSem.ClaimMapViews
import Derived.JoinedTies
import Derived.KernelRfl
namespace Go.Proofs.Ytamalihebfcfbaa
/- THE CELL 'sum', in the pinned program and in every row, IS THE sha256 OF THE DUMP (.gsa) THAT YtamalihebfcfbaaProg.lean LOADS. Nothing in Lean hashes anything: it is a label: what it is worth is what the hold of that sum in a sandbox is worth. -/
noncomputable def Try.pinned : Pinned := { name := "ytamalihebfcfbaa", sum := "c346a4be83d5f855f887ba6609dc34213d51f76299a1b9cdc5535dc471a94cb2", checked := Try.checked }
namespace Rows
def none {H : Type} : Left H := { results := [], args := [] }

/-- 'laws.FnExactLongValid': WHATEVER THE INPUT: true; the input reads as it did. -/
def fnExactLongValidSpec : ChangeSpec := { name := "fnExactLongValid", fn := fun _ => fun
  | [d] => { results := [.lit (.bool true)], args := [d] }
  | _ => none }
def fnExactLongValidRow : OpenClaim := { program := "ytamalihebfcfbaa", sum := "c346a4be83d5f855f887ba6609dc34213d51f76299a1b9cdc5535dc471a94cb2", func := "loop.example/fixedmath/laws.FnExactLongValid", spec := "fnExactLongValid", apart := false }
def FnExactLongValidSaid : Prop := fnExactLongValidRow.holds Try.pinned (OpenSpec.ofChange fnExactLongValidSpec)

/-- ITS FALSE NEIGHBOUR: 'it returns false'. Refute it at one input. -/
def fnExactLongValidWrong : ChangeSpec := { name := "fnExactLongValid", fn := fun _ => fun
  | [d] => { results := [.lit (.bool false)], args := [d] }
  | _ => none }
def FnExactLongValidWrongFalsely : Prop := fnExactLongValidRow.holds Try.pinned (OpenSpec.ofChange fnExactLongValidWrong)

/-- 'laws.FnExactLongOf': WHATEVER THE INPUT: true; the input reads as it did. -/
def fnExactLongOfSpec : ChangeSpec := { name := "fnExactLongOf", fn := fun _ => fun
  | [d] => { results := [.lit (.bool true)], args := [d] }
  | _ => none }
def fnExactLongOfRow : OpenClaim := { program := "ytamalihebfcfbaa", sum := "c346a4be83d5f855f887ba6609dc34213d51f76299a1b9cdc5535dc471a94cb2", func := "loop.example/fixedmath/laws.FnExactLongOf", spec := "fnExactLongOf", apart := false }
def FnExactLongOfSaid : Prop := fnExactLongOfRow.holds Try.pinned (OpenSpec.ofChange fnExactLongOfSpec)

/-- ITS FALSE NEIGHBOUR: 'it returns false'. Refute it at one input. -/
def fnExactLongOfWrong : ChangeSpec := { name := "fnExactLongOf", fn := fun _ => fun
  | [d] => { results := [.lit (.bool false)], args := [d] }
  | _ => none }
def FnExactLongOfWrongFalsely : Prop := fnExactLongOfRow.holds Try.pinned (OpenSpec.ofChange fnExactLongOfWrong)

/-- 'laws.FnLongValid': WHATEVER THE INPUT: true; the input reads as it did. -/
def fnLongValidSpec : ChangeSpec := { name := "fnLongValid", fn := fun _ => fun
  | [d] => { results := [.lit (.bool true)], args := [d] }
  | _ => none }
def fnLongValidRow : OpenClaim := { program := "ytamalihebfcfbaa", sum := "c346a4be83d5f855f887ba6609dc34213d51f76299a1b9cdc5535dc471a94cb2", func := "loop.example/fixedmath/laws.FnLongValid", spec := "fnLongValid", apart := false }
def FnLongValidSaid : Prop := fnLongValidRow.holds Try.pinned (OpenSpec.ofChange fnLongValidSpec)

/-- ITS FALSE NEIGHBOUR: 'it returns false'. Refute it at one input. -/
def fnLongValidWrong : ChangeSpec := { name := "fnLongValid", fn := fun _ => fun
  | [d] => { results := [.lit (.bool false)], args := [d] }
  | _ => none }
def FnLongValidWrongFalsely : Prop := fnLongValidRow.holds Try.pinned (OpenSpec.ofChange fnLongValidWrong)

/-- 'laws.FnLongOf': WHATEVER THE INPUT: true; the input reads as it did. -/
def fnLongOfSpec : ChangeSpec := { name := "fnLongOf", fn := fun _ => fun
  | [d] => { results := [.lit (.bool true)], args := [d] }
  | _ => none }
def fnLongOfRow : OpenClaim := { program := "ytamalihebfcfbaa", sum := "c346a4be83d5f855f887ba6609dc34213d51f76299a1b9cdc5535dc471a94cb2", func := "loop.example/fixedmath/laws.FnLongOf", spec := "fnLongOf", apart := false }
def FnLongOfSaid : Prop := fnLongOfRow.holds Try.pinned (OpenSpec.ofChange fnLongOfSpec)

/-- ITS FALSE NEIGHBOUR: 'it returns false'. Refute it at one input. -/
def fnLongOfWrong : ChangeSpec := { name := "fnLongOf", fn := fun _ => fun
  | [d] => { results := [.lit (.bool false)], args := [d] }
  | _ => none }
def FnLongOfWrongFalsely : Prop := fnLongOfRow.holds Try.pinned (OpenSpec.ofChange fnLongOfWrong)

/-- 'laws.FnExactLongCompare': WHATEVER THE INPUT: true; the input reads as it did. -/
def fnExactLongCompareSpec : ChangeSpec := { name := "fnExactLongCompare", fn := fun _ => fun
  | [d1, d2] => { results := [.lit (.bool true)], args := [d1, d2] }
  | _ => none }
def fnExactLongCompareRow : OpenClaim := { program := "ytamalihebfcfbaa", sum := "c346a4be83d5f855f887ba6609dc34213d51f76299a1b9cdc5535dc471a94cb2", func := "loop.example/fixedmath/laws.FnExactLongCompare", spec := "fnExactLongCompare", apart := false }
def FnExactLongCompareSaid : Prop := fnExactLongCompareRow.holds Try.pinned (OpenSpec.ofChange fnExactLongCompareSpec)

/-- ITS FALSE NEIGHBOUR: 'it returns false'. Refute it at one input. -/
def fnExactLongCompareWrong : ChangeSpec := { name := "fnExactLongCompare", fn := fun _ => fun
  | [d1, d2] => { results := [.lit (.bool false)], args := [d1, d2] }
  | _ => none }
def FnExactLongCompareWrongFalsely : Prop := fnExactLongCompareRow.holds Try.pinned (OpenSpec.ofChange fnExactLongCompareWrong)

/-- 'laws.FnExactLongAdd': WHATEVER THE INPUT: true; the input reads as it did. -/
def fnExactLongAddSpec : ChangeSpec := { name := "fnExactLongAdd", fn := fun _ => fun
  | [d1, d2] => { results := [.lit (.bool true)], args := [d1, d2] }
  | _ => none }
def fnExactLongAddRow : OpenClaim := { program := "ytamalihebfcfbaa", sum := "c346a4be83d5f855f887ba6609dc34213d51f76299a1b9cdc5535dc471a94cb2", func := "loop.example/fixedmath/laws.FnExactLongAdd", spec := "fnExactLongAdd", apart := false }
def FnExactLongAddSaid : Prop := fnExactLongAddRow.holds Try.pinned (OpenSpec.ofChange fnExactLongAddSpec)

/-- ITS FALSE NEIGHBOUR: 'it returns false'. Refute it at one input. -/
def fnExactLongAddWrong : ChangeSpec := { name := "fnExactLongAdd", fn := fun _ => fun
  | [d1, d2] => { results := [.lit (.bool false)], args := [d1, d2] }
  | _ => none }
def FnExactLongAddWrongFalsely : Prop := fnExactLongAddRow.holds Try.pinned (OpenSpec.ofChange fnExactLongAddWrong)

/-- 'laws.FnLongAdd': WHATEVER THE INPUT: true; the input reads as it did. -/
def fnLongAddSpec : ChangeSpec := { name := "fnLongAdd", fn := fun _ => fun
  | [d] => { results := [.lit (.bool true)], args := [d] }
  | _ => none }
def fnLongAddRow : OpenClaim := { program := "ytamalihebfcfbaa", sum := "c346a4be83d5f855f887ba6609dc34213d51f76299a1b9cdc5535dc471a94cb2", func := "loop.example/fixedmath/laws.FnLongAdd", spec := "fnLongAdd", apart := false }
def FnLongAddSaid : Prop := fnLongAddRow.holds Try.pinned (OpenSpec.ofChange fnLongAddSpec)

/-- ITS FALSE NEIGHBOUR: 'it returns false'. Refute it at one input. -/
def fnLongAddWrong : ChangeSpec := { name := "fnLongAdd", fn := fun _ => fun
  | [d] => { results := [.lit (.bool false)], args := [d] }
  | _ => none }
def FnLongAddWrongFalsely : Prop := fnLongAddRow.holds Try.pinned (OpenSpec.ofChange fnLongAddWrong)

/-- 'laws.FnLongCompare': WHATEVER THE INPUT: true; the input reads as it did. -/
def fnLongCompareSpec : ChangeSpec := { name := "fnLongCompare", fn := fun _ => fun
  | [d] => { results := [.lit (.bool true)], args := [d] }
  | _ => none }
def fnLongCompareRow : OpenClaim := { program := "ytamalihebfcfbaa", sum := "c346a4be83d5f855f887ba6609dc34213d51f76299a1b9cdc5535dc471a94cb2", func := "loop.example/fixedmath/laws.FnLongCompare", spec := "fnLongCompare", apart := false }
def FnLongCompareSaid : Prop := fnLongCompareRow.holds Try.pinned (OpenSpec.ofChange fnLongCompareSpec)

/-- ITS FALSE NEIGHBOUR: 'it returns false'. Refute it at one input. -/
def fnLongCompareWrong : ChangeSpec := { name := "fnLongCompare", fn := fun _ => fun
  | [d] => { results := [.lit (.bool false)], args := [d] }
  | _ => none }
def FnLongCompareWrongFalsely : Prop := fnLongCompareRow.holds Try.pinned (OpenSpec.ofChange fnLongCompareWrong)

/- THE SECOND FORM. 'bulk': how many values and letters a reading holds, each counted each time it is reached (what is shared counts as often as it is met; a slice's spare places count too). A statement '..UptoSaid' is the law's where the arguments, and the package variables that the reading takes, are together of bulk at most 1048576: NARROWER than '..Said'. Prove '..Said' where nothing that the law and all that it calls make is longer than what came in: it says more and counts as full. Else prove '..UptoSaid'. A law counts once. -/
mutual
def uptoBulk {H : Type} : DataW H → Nat
  | .lit (.string bytes) => bytes.length + 1
  | .lit _ => 1
  | .nil => 1
  | .ptr d => uptoBulk d + 1
  | .slice elems spare => uptoBulkAll elems + uptoBulkAll spare + 1
  | .agg parts => uptoBulkAll parts + 1
  | .iface _ d => uptoBulk d + 1
  | .map entries => uptoBulkEntries entries + 1
  | .held _ => 1
def uptoBulkAll {H : Type} : List (DataW H) → Nat
  | [] => 0
  | d :: r => uptoBulk d + uptoBulkAll r
def uptoBulkEntries {H : Type} : List (Lit × DataW H) → Nat
  | [] => 0
  | x :: r => uptoBulkEntry x + uptoBulkEntries r
def uptoBulkEntry {H : Type} : Lit × DataW H → Nat
  | (.string bytes, d) => bytes.length + uptoBulk d + 1
  | (_, d) => uptoBulk d + 1
 end
def uptoSmall : (H : Type) → List (DataW H) → Bool := fun _ ds => decide (uptoBulkAll ds ≤ 1048576)
def OpenSpec.upto (s : _root_.Go.ChangeSpec) : _root_.Go.OpenSpec := { _root_.Go.OpenSpec.ofChange s with cond := some uptoSmall }

/-- 'laws.FnExactLongValid', WHERE WHAT IT READS IS OF BULK AT MOST 1048576: true; the input reads as it did. -/
def fnExactLongValidUptoRow : OpenClaim := { program := "ytamalihebfcfbaa", sum := "c346a4be83d5f855f887ba6609dc34213d51f76299a1b9cdc5535dc471a94cb2", func := "loop.example/fixedmath/laws.FnExactLongValid", spec := "fnExactLongValid", apart := false, narrowed := true }
def FnExactLongValidUptoSaid : Prop := fnExactLongValidUptoRow.holds Try.pinned (OpenSpec.upto fnExactLongValidSpec)

/-- 'laws.FnExactLongOf', WHERE WHAT IT READS IS OF BULK AT MOST 1048576: true; the input reads as it did. -/
def fnExactLongOfUptoRow : OpenClaim := { program := "ytamalihebfcfbaa", sum := "c346a4be83d5f855f887ba6609dc34213d51f76299a1b9cdc5535dc471a94cb2", func := "loop.example/fixedmath/laws.FnExactLongOf", spec := "fnExactLongOf", apart := false, narrowed := true }
def FnExactLongOfUptoSaid : Prop := fnExactLongOfUptoRow.holds Try.pinned (OpenSpec.upto fnExactLongOfSpec)

/-- 'laws.FnLongValid', WHERE WHAT IT READS IS OF BULK AT MOST 1048576: true; the input reads as it did. -/
def fnLongValidUptoRow : OpenClaim := { program := "ytamalihebfcfbaa", sum := "c346a4be83d5f855f887ba6609dc34213d51f76299a1b9cdc5535dc471a94cb2", func := "loop.example/fixedmath/laws.FnLongValid", spec := "fnLongValid", apart := false, narrowed := true }
def FnLongValidUptoSaid : Prop := fnLongValidUptoRow.holds Try.pinned (OpenSpec.upto fnLongValidSpec)

/-- 'laws.FnLongOf', WHERE WHAT IT READS IS OF BULK AT MOST 1048576: true; the input reads as it did. -/
def fnLongOfUptoRow : OpenClaim := { program := "ytamalihebfcfbaa", sum := "c346a4be83d5f855f887ba6609dc34213d51f76299a1b9cdc5535dc471a94cb2", func := "loop.example/fixedmath/laws.FnLongOf", spec := "fnLongOf", apart := false, narrowed := true }
def FnLongOfUptoSaid : Prop := fnLongOfUptoRow.holds Try.pinned (OpenSpec.upto fnLongOfSpec)

/-- 'laws.FnExactLongCompare', WHERE WHAT IT READS IS OF BULK AT MOST 1048576: true; the input reads as it did. -/
def fnExactLongCompareUptoRow : OpenClaim := { program := "ytamalihebfcfbaa", sum := "c346a4be83d5f855f887ba6609dc34213d51f76299a1b9cdc5535dc471a94cb2", func := "loop.example/fixedmath/laws.FnExactLongCompare", spec := "fnExactLongCompare", apart := false, narrowed := true }
def FnExactLongCompareUptoSaid : Prop := fnExactLongCompareUptoRow.holds Try.pinned (OpenSpec.upto fnExactLongCompareSpec)

/-- 'laws.FnExactLongAdd', WHERE WHAT IT READS IS OF BULK AT MOST 1048576: true; the input reads as it did. -/
def fnExactLongAddUptoRow : OpenClaim := { program := "ytamalihebfcfbaa", sum := "c346a4be83d5f855f887ba6609dc34213d51f76299a1b9cdc5535dc471a94cb2", func := "loop.example/fixedmath/laws.FnExactLongAdd", spec := "fnExactLongAdd", apart := false, narrowed := true }
def FnExactLongAddUptoSaid : Prop := fnExactLongAddUptoRow.holds Try.pinned (OpenSpec.upto fnExactLongAddSpec)

/-- 'laws.FnLongAdd', WHERE WHAT IT READS IS OF BULK AT MOST 1048576: true; the input reads as it did. -/
def fnLongAddUptoRow : OpenClaim := { program := "ytamalihebfcfbaa", sum := "c346a4be83d5f855f887ba6609dc34213d51f76299a1b9cdc5535dc471a94cb2", func := "loop.example/fixedmath/laws.FnLongAdd", spec := "fnLongAdd", apart := false, narrowed := true }
def FnLongAddUptoSaid : Prop := fnLongAddUptoRow.holds Try.pinned (OpenSpec.upto fnLongAddSpec)

/-- 'laws.FnLongCompare', WHERE WHAT IT READS IS OF BULK AT MOST 1048576: true; the input reads as it did. -/
def fnLongCompareUptoRow : OpenClaim := { program := "ytamalihebfcfbaa", sum := "c346a4be83d5f855f887ba6609dc34213d51f76299a1b9cdc5535dc471a94cb2", func := "loop.example/fixedmath/laws.FnLongCompare", spec := "fnLongCompare", apart := false, narrowed := true }
def FnLongCompareUptoSaid : Prop := fnLongCompareUptoRow.holds Try.pinned (OpenSpec.upto fnLongCompareSpec)

end Rows
end Go.Proofs.Ytamalihebfcfbaa

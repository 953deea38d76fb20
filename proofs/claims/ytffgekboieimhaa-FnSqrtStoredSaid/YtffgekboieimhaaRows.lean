/-
  No cell of these rows narrows 'for every input' (looked for: loops, veiled, ifaces, maps, wideKeys, modest, calm, conditions, laid).
  DERIVED. THE GIVEN ROWS OF THIS SEAT. 11 by the template 'for every input the law returns true; each argument reads behind the call as it read before'; 0 by the template 'total and deterministic' (their statements: YtffgekboieimhaaTotals.lean).
  GIVEN WITH THE SEED: the statements are not yours to turn. If you find one false, say at which input.
  Laid BY PROGRAM, IN A SANDBOX (cutbox-rows.mjs): the forced cells as the released guide's own fill.sh prints them over the translation b907214262397cf4… (all of the seat's roots in one cut). By AI agents, Wed Nov 11 2026. No macro, syntax, notation, axiom, sorry.
-/
import Derived.Test.YtffgekboieimhaaChecked
import GoSem.Claim
import GoSem.ClaimJoined
import GoSem.ClaimMapViews
import Derived.JoinedTies
import Derived.KernelRfl
namespace Go.Proofs.Ytffgekboieimhaa
/- THE CELL 'sum', in the pinned program and in every row, IS THE sha256 OF THE DUMP (.gsa) THAT YtffgekboieimhaaProg.lean LOADS. Nothing in Lean hashes anything: it is a label: what it is worth is what the hold of that sum in a sandbox is worth. -/
noncomputable def Try.pinned : Pinned := { name := "ytffgekboieimhaa", sum := "b907214262397cf43eccbb2861e19b6ae9d2abfcc6e59b698f13ec4e0eec54da", checked := Try.checked }
namespace Rows
def none {H : Type} : Left H := { results := [], args := [] }

/-- 'laws.FnExactCutStored': WHATEVER THE INPUT: true; the input reads as it did. -/
def fnExactCutStoredSpec : ChangeSpec := { name := "fnExactCutStored", fn := fun _ => fun
  | [d1, d2] => { results := [.lit (.bool true)], args := [d1, d2] }
  | _ => none }
def fnExactCutStoredRow : OpenClaim := { program := "ytffgekboieimhaa", sum := "b907214262397cf43eccbb2861e19b6ae9d2abfcc6e59b698f13ec4e0eec54da", func := "loop.example/fixedmath/laws.FnExactCutStored", spec := "fnExactCutStored", apart := false }
def FnExactCutStoredSaid : Prop := fnExactCutStoredRow.holds Try.pinned (OpenSpec.ofChange fnExactCutStoredSpec)

/-- ITS FALSE NEIGHBOUR: 'it returns false'. Refute it at one input. -/
def fnExactCutStoredWrong : ChangeSpec := { name := "fnExactCutStored", fn := fun _ => fun
  | [d1, d2] => { results := [.lit (.bool false)], args := [d1, d2] }
  | _ => none }
def FnExactCutStoredWrongFalsely : Prop := fnExactCutStoredRow.holds Try.pinned (OpenSpec.ofChange fnExactCutStoredWrong)

/-- 'laws.FnExactAddStored': WHATEVER THE INPUT: true; the input reads as it did. -/
def fnExactAddStoredSpec : ChangeSpec := { name := "fnExactAddStored", fn := fun _ => fun
  | [d1, d2, d3] => { results := [.lit (.bool true)], args := [d1, d2, d3] }
  | _ => none }
def fnExactAddStoredRow : OpenClaim := { program := "ytffgekboieimhaa", sum := "b907214262397cf43eccbb2861e19b6ae9d2abfcc6e59b698f13ec4e0eec54da", func := "loop.example/fixedmath/laws.FnExactAddStored", spec := "fnExactAddStored", unfollowed := true, recurses := true, apart := false }
def FnExactAddStoredSaid : Prop := fnExactAddStoredRow.holds Try.pinned (OpenSpec.ofChange fnExactAddStoredSpec)

/-- ITS FALSE NEIGHBOUR: 'it returns false'. Refute it at one input. -/
def fnExactAddStoredWrong : ChangeSpec := { name := "fnExactAddStored", fn := fun _ => fun
  | [d1, d2, d3] => { results := [.lit (.bool false)], args := [d1, d2, d3] }
  | _ => none }
def FnExactAddStoredWrongFalsely : Prop := fnExactAddStoredRow.holds Try.pinned (OpenSpec.ofChange fnExactAddStoredWrong)

/-- 'laws.FnExactSubStored': WHATEVER THE INPUT: true; the input reads as it did. -/
def fnExactSubStoredSpec : ChangeSpec := { name := "fnExactSubStored", fn := fun _ => fun
  | [d1, d2, d3] => { results := [.lit (.bool true)], args := [d1, d2, d3] }
  | _ => none }
def fnExactSubStoredRow : OpenClaim := { program := "ytffgekboieimhaa", sum := "b907214262397cf43eccbb2861e19b6ae9d2abfcc6e59b698f13ec4e0eec54da", func := "loop.example/fixedmath/laws.FnExactSubStored", spec := "fnExactSubStored", unfollowed := true, recurses := true, apart := false }
def FnExactSubStoredSaid : Prop := fnExactSubStoredRow.holds Try.pinned (OpenSpec.ofChange fnExactSubStoredSpec)

/-- ITS FALSE NEIGHBOUR: 'it returns false'. Refute it at one input. -/
def fnExactSubStoredWrong : ChangeSpec := { name := "fnExactSubStored", fn := fun _ => fun
  | [d1, d2, d3] => { results := [.lit (.bool false)], args := [d1, d2, d3] }
  | _ => none }
def FnExactSubStoredWrongFalsely : Prop := fnExactSubStoredRow.holds Try.pinned (OpenSpec.ofChange fnExactSubStoredWrong)

/-- 'laws.FnExactWholeOf': WHATEVER THE INPUT: true; the input reads as it did. -/
def fnExactWholeOfSpec : ChangeSpec := { name := "fnExactWholeOf", fn := fun _ => fun
  | [d1, d2] => { results := [.lit (.bool true)], args := [d1, d2] }
  | _ => none }
def fnExactWholeOfRow : OpenClaim := { program := "ytffgekboieimhaa", sum := "b907214262397cf43eccbb2861e19b6ae9d2abfcc6e59b698f13ec4e0eec54da", func := "loop.example/fixedmath/laws.FnExactWholeOf", spec := "fnExactWholeOf", apart := false }
def FnExactWholeOfSaid : Prop := fnExactWholeOfRow.holds Try.pinned (OpenSpec.ofChange fnExactWholeOfSpec)

/-- ITS FALSE NEIGHBOUR: 'it returns false'. Refute it at one input. -/
def fnExactWholeOfWrong : ChangeSpec := { name := "fnExactWholeOf", fn := fun _ => fun
  | [d1, d2] => { results := [.lit (.bool false)], args := [d1, d2] }
  | _ => none }
def FnExactWholeOfWrongFalsely : Prop := fnExactWholeOfRow.holds Try.pinned (OpenSpec.ofChange fnExactWholeOfWrong)

/-- 'laws.FnExactSqrtStored': WHATEVER THE INPUT: true; the input reads as it did. -/
def fnExactSqrtStoredSpec : ChangeSpec := { name := "fnExactSqrtStored", fn := fun _ => fun
  | [d1, d2] => { results := [.lit (.bool true)], args := [d1, d2] }
  | _ => none }
def fnExactSqrtStoredRow : OpenClaim := { program := "ytffgekboieimhaa", sum := "b907214262397cf43eccbb2861e19b6ae9d2abfcc6e59b698f13ec4e0eec54da", func := "loop.example/fixedmath/laws.FnExactSqrtStored", spec := "fnExactSqrtStored", apart := false }
def FnExactSqrtStoredSaid : Prop := fnExactSqrtStoredRow.holds Try.pinned (OpenSpec.ofChange fnExactSqrtStoredSpec)

/-- ITS FALSE NEIGHBOUR: 'it returns false'. Refute it at one input. -/
def fnExactSqrtStoredWrong : ChangeSpec := { name := "fnExactSqrtStored", fn := fun _ => fun
  | [d1, d2] => { results := [.lit (.bool false)], args := [d1, d2] }
  | _ => none }
def FnExactSqrtStoredWrongFalsely : Prop := fnExactSqrtStoredRow.holds Try.pinned (OpenSpec.ofChange fnExactSqrtStoredWrong)

/-- 'laws.FnFormatValid': WHATEVER THE INPUT: true; the input reads as it did. -/
def fnFormatValidSpec : ChangeSpec := { name := "fnFormatValid", fn := fun _ => fun
  | [d] => { results := [.lit (.bool true)], args := [d] }
  | _ => none }
def fnFormatValidRow : OpenClaim := { program := "ytffgekboieimhaa", sum := "b907214262397cf43eccbb2861e19b6ae9d2abfcc6e59b698f13ec4e0eec54da", func := "loop.example/fixedmath/laws.FnFormatValid", spec := "fnFormatValid", apart := false }
def FnFormatValidSaid : Prop := fnFormatValidRow.holds Try.pinned (OpenSpec.ofChange fnFormatValidSpec)

/-- ITS FALSE NEIGHBOUR: 'it returns false'. Refute it at one input. -/
def fnFormatValidWrong : ChangeSpec := { name := "fnFormatValid", fn := fun _ => fun
  | [d] => { results := [.lit (.bool false)], args := [d] }
  | _ => none }
def FnFormatValidWrongFalsely : Prop := fnFormatValidRow.holds Try.pinned (OpenSpec.ofChange fnFormatValidWrong)

/-- 'laws.FnStoredFits': WHATEVER THE INPUT: true; the input reads as it did. -/
def fnStoredFitsSpec : ChangeSpec := { name := "fnStoredFits", fn := fun _ => fun
  | [d] => { results := [.lit (.bool true)], args := [d] }
  | _ => none }
def fnStoredFitsRow : OpenClaim := { program := "ytffgekboieimhaa", sum := "b907214262397cf43eccbb2861e19b6ae9d2abfcc6e59b698f13ec4e0eec54da", func := "loop.example/fixedmath/laws.FnStoredFits", spec := "fnStoredFits", apart := false }
def FnStoredFitsSaid : Prop := fnStoredFitsRow.holds Try.pinned (OpenSpec.ofChange fnStoredFitsSpec)

/-- ITS FALSE NEIGHBOUR: 'it returns false'. Refute it at one input. -/
def fnStoredFitsWrong : ChangeSpec := { name := "fnStoredFits", fn := fun _ => fun
  | [d] => { results := [.lit (.bool false)], args := [d] }
  | _ => none }
def FnStoredFitsWrongFalsely : Prop := fnStoredFitsRow.holds Try.pinned (OpenSpec.ofChange fnStoredFitsWrong)

/-- 'laws.FnCutStored': WHATEVER THE INPUT: true; the input reads as it did. -/
def fnCutStoredSpec : ChangeSpec := { name := "fnCutStored", fn := fun _ => fun
  | [d] => { results := [.lit (.bool true)], args := [d] }
  | _ => none }
def fnCutStoredRow : OpenClaim := { program := "ytffgekboieimhaa", sum := "b907214262397cf43eccbb2861e19b6ae9d2abfcc6e59b698f13ec4e0eec54da", func := "loop.example/fixedmath/laws.FnCutStored", spec := "fnCutStored", apart := false }
def FnCutStoredSaid : Prop := fnCutStoredRow.holds Try.pinned (OpenSpec.ofChange fnCutStoredSpec)

/-- ITS FALSE NEIGHBOUR: 'it returns false'. Refute it at one input. -/
def fnCutStoredWrong : ChangeSpec := { name := "fnCutStored", fn := fun _ => fun
  | [d] => { results := [.lit (.bool false)], args := [d] }
  | _ => none }
def FnCutStoredWrongFalsely : Prop := fnCutStoredRow.holds Try.pinned (OpenSpec.ofChange fnCutStoredWrong)

/-- 'laws.FnSubStored': WHATEVER THE INPUT: true; the input reads as it did. -/
def fnSubStoredSpec : ChangeSpec := { name := "fnSubStored", fn := fun _ => fun
  | [d] => { results := [.lit (.bool true)], args := [d] }
  | _ => none }
def fnSubStoredRow : OpenClaim := { program := "ytffgekboieimhaa", sum := "b907214262397cf43eccbb2861e19b6ae9d2abfcc6e59b698f13ec4e0eec54da", func := "loop.example/fixedmath/laws.FnSubStored", spec := "fnSubStored", unfollowed := true, recurses := true, apart := false }
def FnSubStoredSaid : Prop := fnSubStoredRow.holds Try.pinned (OpenSpec.ofChange fnSubStoredSpec)

/-- ITS FALSE NEIGHBOUR: 'it returns false'. Refute it at one input. -/
def fnSubStoredWrong : ChangeSpec := { name := "fnSubStored", fn := fun _ => fun
  | [d] => { results := [.lit (.bool false)], args := [d] }
  | _ => none }
def FnSubStoredWrongFalsely : Prop := fnSubStoredRow.holds Try.pinned (OpenSpec.ofChange fnSubStoredWrong)

/-- 'laws.FnAddStored': WHATEVER THE INPUT: true; the input reads as it did. -/
def fnAddStoredSpec : ChangeSpec := { name := "fnAddStored", fn := fun _ => fun
  | [d] => { results := [.lit (.bool true)], args := [d] }
  | _ => none }
def fnAddStoredRow : OpenClaim := { program := "ytffgekboieimhaa", sum := "b907214262397cf43eccbb2861e19b6ae9d2abfcc6e59b698f13ec4e0eec54da", func := "loop.example/fixedmath/laws.FnAddStored", spec := "fnAddStored", unfollowed := true, recurses := true, apart := false }
def FnAddStoredSaid : Prop := fnAddStoredRow.holds Try.pinned (OpenSpec.ofChange fnAddStoredSpec)

/-- ITS FALSE NEIGHBOUR: 'it returns false'. Refute it at one input. -/
def fnAddStoredWrong : ChangeSpec := { name := "fnAddStored", fn := fun _ => fun
  | [d] => { results := [.lit (.bool false)], args := [d] }
  | _ => none }
def FnAddStoredWrongFalsely : Prop := fnAddStoredRow.holds Try.pinned (OpenSpec.ofChange fnAddStoredWrong)

/-- 'laws.FnSqrtStored': WHATEVER THE INPUT: true; the input reads as it did. -/
def fnSqrtStoredSpec : ChangeSpec := { name := "fnSqrtStored", fn := fun _ => fun
  | [d] => { results := [.lit (.bool true)], args := [d] }
  | _ => none }
def fnSqrtStoredRow : OpenClaim := { program := "ytffgekboieimhaa", sum := "b907214262397cf43eccbb2861e19b6ae9d2abfcc6e59b698f13ec4e0eec54da", func := "loop.example/fixedmath/laws.FnSqrtStored", spec := "fnSqrtStored", apart := false }
def FnSqrtStoredSaid : Prop := fnSqrtStoredRow.holds Try.pinned (OpenSpec.ofChange fnSqrtStoredSpec)

/-- ITS FALSE NEIGHBOUR: 'it returns false'. Refute it at one input. -/
def fnSqrtStoredWrong : ChangeSpec := { name := "fnSqrtStored", fn := fun _ => fun
  | [d] => { results := [.lit (.bool false)], args := [d] }
  | _ => none }
def FnSqrtStoredWrongFalsely : Prop := fnSqrtStoredRow.holds Try.pinned (OpenSpec.ofChange fnSqrtStoredWrong)

/- THE SECOND FORM. 'bulk': how many values and letters a reading holds, each counted each time it is reached (what is shared counts as often as it is met; a slice's spare places count too). A statement '..UptoSaid' is the law's where the arguments, and the package variables that the reading takes, are together of bulk at most 1048576: NARROWER than '..Said'. Prove '..Said' where nothing that the law and all that it calls make is longer than what came in: it says more and counts as full. Else prove '..UptoSaid'. A law counts once. -/
mutual
def uptoBulk {H : Type} : DataW H → Nat
  | .lit (.string bytes) => bytes.length + 1
  | .lit _ => 1
  | .nil => 1
  | .ptr d => uptoBulk d + 1
  | .slice elems spare => uptoBulkAll elems + uptoBulkAll spare + 1
  | .agg parts => uptoBulkAll parts + 1
  | .iface _ d => uptoBulk d + 1
  | .map entries => uptoBulkEntries entries + 1
  | .held _ => 1
def uptoBulkAll {H : Type} : List (DataW H) → Nat
  | [] => 0
  | d :: r => uptoBulk d + uptoBulkAll r
def uptoBulkEntries {H : Type} : List (Lit × DataW H) → Nat
  | [] => 0
  | x :: r => uptoBulkEntry x + uptoBulkEntries r
def uptoBulkEntry {H : Type} : Lit × DataW H → Nat
  | (.string bytes, d) => bytes.length + uptoBulk d + 1
  | (_, d) => uptoBulk d + 1
 end
def uptoSmall : (H : Type) → List (DataW H) → Bool := fun _ ds => decide (uptoBulkAll ds ≤ 1048576)
def OpenSpec.upto (s : _root_.Go.ChangeSpec) : _root_.Go.OpenSpec := { _root_.Go.OpenSpec.ofChange s with cond := some uptoSmall }

/-- 'laws.FnExactCutStored', WHERE WHAT IT READS IS OF BULK AT MOST 1048576: true; the input reads as it did. -/
def fnExactCutStoredUptoRow : OpenClaim := { program := "ytffgekboieimhaa", sum := "b907214262397cf43eccbb2861e19b6ae9d2abfcc6e59b698f13ec4e0eec54da", func := "loop.example/fixedmath/laws.FnExactCutStored", spec := "fnExactCutStored", apart := false, narrowed := true }
def FnExactCutStoredUptoSaid : Prop := fnExactCutStoredUptoRow.holds Try.pinned (OpenSpec.upto fnExactCutStoredSpec)

/-- 'laws.FnExactAddStored', WHERE WHAT IT READS IS OF BULK AT MOST 1048576: true; the input reads as it did. -/
def fnExactAddStoredUptoRow : OpenClaim := { program := "ytffgekboieimhaa", sum := "b907214262397cf43eccbb2861e19b6ae9d2abfcc6e59b698f13ec4e0eec54da", func := "loop.example/fixedmath/laws.FnExactAddStored", spec := "fnExactAddStored", unfollowed := true, recurses := true, apart := false, narrowed := true }
def FnExactAddStoredUptoSaid : Prop := fnExactAddStoredUptoRow.holds Try.pinned (OpenSpec.upto fnExactAddStoredSpec)

/-- 'laws.FnExactSubStored', WHERE WHAT IT READS IS OF BULK AT MOST 1048576: true; the input reads as it did. -/
def fnExactSubStoredUptoRow : OpenClaim := { program := "ytffgekboieimhaa", sum := "b907214262397cf43eccbb2861e19b6ae9d2abfcc6e59b698f13ec4e0eec54da", func := "loop.example/fixedmath/laws.FnExactSubStored", spec := "fnExactSubStored", unfollowed := true, recurses := true, apart := false, narrowed := true }
def FnExactSubStoredUptoSaid : Prop := fnExactSubStoredUptoRow.holds Try.pinned (OpenSpec.upto fnExactSubStoredSpec)

/-- 'laws.FnExactWholeOf', WHERE WHAT IT READS IS OF BULK AT MOST 1048576: true; the input reads as it did. -/
def fnExactWholeOfUptoRow : OpenClaim := { program := "ytffgekboieimhaa", sum := "b907214262397cf43eccbb2861e19b6ae9d2abfcc6e59b698f13ec4e0eec54da", func := "loop.example/fixedmath/laws.FnExactWholeOf", spec := "fnExactWholeOf", apart := false, narrowed := true }
def FnExactWholeOfUptoSaid : Prop := fnExactWholeOfUptoRow.holds Try.pinned (OpenSpec.upto fnExactWholeOfSpec)

/-- 'laws.FnExactSqrtStored', WHERE WHAT IT READS IS OF BULK AT MOST 1048576: true; the input reads as it did. -/
def fnExactSqrtStoredUptoRow : OpenClaim := { program := "ytffgekboieimhaa", sum := "b907214262397cf43eccbb2861e19b6ae9d2abfcc6e59b698f13ec4e0eec54da", func := "loop.example/fixedmath/laws.FnExactSqrtStored", spec := "fnExactSqrtStored", apart := false, narrowed := true }
def FnExactSqrtStoredUptoSaid : Prop := fnExactSqrtStoredUptoRow.holds Try.pinned (OpenSpec.upto fnExactSqrtStoredSpec)

/-- 'laws.FnFormatValid', WHERE WHAT IT READS IS OF BULK AT MOST 1048576: true; the input reads as it did. -/
def fnFormatValidUptoRow : OpenClaim := { program := "ytffgekboieimhaa", sum := "b907214262397cf43eccbb2861e19b6ae9d2abfcc6e59b698f13ec4e0eec54da", func := "loop.example/fixedmath/laws.FnFormatValid", spec := "fnFormatValid", apart := false, narrowed := true }
def FnFormatValidUptoSaid : Prop := fnFormatValidUptoRow.holds Try.pinned (OpenSpec.upto fnFormatValidSpec)

/-- 'laws.FnStoredFits', WHERE WHAT IT READS IS OF BULK AT MOST 1048576: true; the input reads as it did. -/
def fnStoredFitsUptoRow : OpenClaim := { program := "ytffgekboieimhaa", sum := "b907214262397cf43eccbb2861e19b6ae9d2abfcc6e59b698f13ec4e0eec54da", func := "loop.example/fixedmath/laws.FnStoredFits", spec := "fnStoredFits", apart := false, narrowed := true }
def FnStoredFitsUptoSaid : Prop := fnStoredFitsUptoRow.holds Try.pinned (OpenSpec.upto fnStoredFitsSpec)

/-- 'laws.FnCutStored', WHERE WHAT IT READS IS OF BULK AT MOST 1048576: true; the input reads as it did. -/
def fnCutStoredUptoRow : OpenClaim := { program := "ytffgekboieimhaa", sum := "b907214262397cf43eccbb2861e19b6ae9d2abfcc6e59b698f13ec4e0eec54da", func := "loop.example/fixedmath/laws.FnCutStored", spec := "fnCutStored", apart := false, narrowed := true }
def FnCutStoredUptoSaid : Prop := fnCutStoredUptoRow.holds Try.pinned (OpenSpec.upto fnCutStoredSpec)

/-- 'laws.FnSubStored', WHERE WHAT IT READS IS OF BULK AT MOST 1048576: true; the input reads as it did. -/
def fnSubStoredUptoRow : OpenClaim := { program := "ytffgekboieimhaa", sum := "b907214262397cf43eccbb2861e19b6ae9d2abfcc6e59b698f13ec4e0eec54da", func := "loop.example/fixedmath/laws.FnSubStored", spec := "fnSubStored", unfollowed := true, recurses := true, apart := false, narrowed := true }
def FnSubStoredUptoSaid : Prop := fnSubStoredUptoRow.holds Try.pinned (OpenSpec.upto fnSubStoredSpec)

/-- 'laws.FnAddStored', WHERE WHAT IT READS IS OF BULK AT MOST 1048576: true; the input reads as it did. -/
def fnAddStoredUptoRow : OpenClaim := { program := "ytffgekboieimhaa", sum := "b907214262397cf43eccbb2861e19b6ae9d2abfcc6e59b698f13ec4e0eec54da", func := "loop.example/fixedmath/laws.FnAddStored", spec := "fnAddStored", unfollowed := true, recurses := true, apart := false, narrowed := true }
def FnAddStoredUptoSaid : Prop := fnAddStoredUptoRow.holds Try.pinned (OpenSpec.upto fnAddStoredSpec)

/-- 'laws.FnSqrtStored', WHERE WHAT IT READS IS OF BULK AT MOST 1048576: true; the input reads as it did. -/
def fnSqrtStoredUptoRow : OpenClaim := { program := "ytffgekboieimhaa", sum := "b907214262397cf43eccbb2861e19b6ae9d2abfcc6e59b698f13ec4e0eec54da", func := "loop.example/fixedmath/laws.FnSqrtStored", spec := "fnSqrtStored", apart := false, narrowed := true }
def FnSqrtStoredUptoSaid : Prop := fnSqrtStoredUptoRow.holds Try.pinned (OpenSpec.upto fnSqrtStoredSpec)

end Rows
end Go.Proofs.Ytffgekboieimhaa

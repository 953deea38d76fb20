/-
  No cell of these rows narrows 'for every input' (looked for: loops, veiled, ifaces, maps, wideKeys, modest, calm, conditions, laid).
  DERIVED. THE GIVEN ROWS OF THIS SEAT. 11 by the template 'for every input the law returns true; each argument reads behind the call as it read before'; 0 by the template 'total and deterministic' (their statements: YtjlldfkkkfcohaaTotals.lean).
  GIVEN WITH THE SEED: the statements are not yours to turn. If you find one false, say at which input.
  Laid BY PROGRAM, IN A SANDBOX (cutbox-rows.mjs): the forced cells as the released guide's own fill.sh prints them over the translation 922b0b3868481359… (all of the seat's roots in one cut). By AI agents, Wed Nov 11 2026. No macro, syntax, notation, axiom, sorry.
-/
import Derived.Test.YtjlldfkkkfcohaaChecked
import GoSem.Claim
import GoSem.ClaimJoined
import GoSem.ClaimMapViews
import Derived.JoinedTies
import Derived.KernelRfl
namespace Go.Proofs.Ytjlldfkkkfcohaa
/- THE CELL 'sum', in the pinned program and in every row, IS THE sha256 OF THE DUMP (.gsa) THAT YtjlldfkkkfcohaaProg.lean LOADS. Nothing in Lean hashes anything: it is a label: what it is worth is what the hold of that sum in a sandbox is worth. -/
noncomputable def Try.pinned : Pinned := { name := "ytjlldfkkkfcohaa", sum := "922b0b3868481359894e8d518eeb1a6c8e71fbcad9a396a56005455981c2e59c", checked := Try.checked }
namespace Rows
def none {H : Type} : Left H := { results := [], args := [] }

/-- 'laws.FnExactSpanNeg': WHATEVER THE INPUT: true; the input reads as it did. -/
def fnExactSpanNegSpec : ChangeSpec := { name := "fnExactSpanNeg", fn := fun _ => fun
  | [d] => { results := [.lit (.bool true)], args := [d] }
  | _ => none }
def fnExactSpanNegRow : OpenClaim := { program := "ytjlldfkkkfcohaa", sum := "922b0b3868481359894e8d518eeb1a6c8e71fbcad9a396a56005455981c2e59c", func := "loop.example/fixedmath/laws.FnExactSpanNeg", spec := "fnExactSpanNeg", apart := false }
def FnExactSpanNegSaid : Prop := fnExactSpanNegRow.holds Try.pinned (OpenSpec.ofChange fnExactSpanNegSpec)

/-- ITS FALSE NEIGHBOUR: 'it returns false'. Refute it at one input. -/
def fnExactSpanNegWrong : ChangeSpec := { name := "fnExactSpanNeg", fn := fun _ => fun
  | [d] => { results := [.lit (.bool false)], args := [d] }
  | _ => none }
def FnExactSpanNegWrongFalsely : Prop := fnExactSpanNegRow.holds Try.pinned (OpenSpec.ofChange fnExactSpanNegWrong)

/-- 'laws.FnExactSpanAdd': WHATEVER THE INPUT: true; the input reads as it did. -/
def fnExactSpanAddSpec : ChangeSpec := { name := "fnExactSpanAdd", fn := fun _ => fun
  | [d1, d2] => { results := [.lit (.bool true)], args := [d1, d2] }
  | _ => none }
def fnExactSpanAddRow : OpenClaim := { program := "ytjlldfkkkfcohaa", sum := "922b0b3868481359894e8d518eeb1a6c8e71fbcad9a396a56005455981c2e59c", func := "loop.example/fixedmath/laws.FnExactSpanAdd", spec := "fnExactSpanAdd", apart := false }
def FnExactSpanAddSaid : Prop := fnExactSpanAddRow.holds Try.pinned (OpenSpec.ofChange fnExactSpanAddSpec)

/-- ITS FALSE NEIGHBOUR: 'it returns false'. Refute it at one input. -/
def fnExactSpanAddWrong : ChangeSpec := { name := "fnExactSpanAdd", fn := fun _ => fun
  | [d1, d2] => { results := [.lit (.bool false)], args := [d1, d2] }
  | _ => none }
def FnExactSpanAddWrongFalsely : Prop := fnExactSpanAddRow.holds Try.pinned (OpenSpec.ofChange fnExactSpanAddWrong)

/-- 'laws.FnExactSpanMeet': WHATEVER THE INPUT: true; the input reads as it did. -/
def fnExactSpanMeetSpec : ChangeSpec := { name := "fnExactSpanMeet", fn := fun _ => fun
  | [d1, d2] => { results := [.lit (.bool true)], args := [d1, d2] }
  | _ => none }
def fnExactSpanMeetRow : OpenClaim := { program := "ytjlldfkkkfcohaa", sum := "922b0b3868481359894e8d518eeb1a6c8e71fbcad9a396a56005455981c2e59c", func := "loop.example/fixedmath/laws.FnExactSpanMeet", spec := "fnExactSpanMeet", apart := false }
def FnExactSpanMeetSaid : Prop := fnExactSpanMeetRow.holds Try.pinned (OpenSpec.ofChange fnExactSpanMeetSpec)

/-- ITS FALSE NEIGHBOUR: 'it returns false'. Refute it at one input. -/
def fnExactSpanMeetWrong : ChangeSpec := { name := "fnExactSpanMeet", fn := fun _ => fun
  | [d1, d2] => { results := [.lit (.bool false)], args := [d1, d2] }
  | _ => none }
def FnExactSpanMeetWrongFalsely : Prop := fnExactSpanMeetRow.holds Try.pinned (OpenSpec.ofChange fnExactSpanMeetWrong)

/-- 'laws.FnExactSpanTimes': WHATEVER THE INPUT: true; the input reads as it did. -/
def fnExactSpanTimesSpec : ChangeSpec := { name := "fnExactSpanTimes", fn := fun _ => fun
  | [d1, d2] => { results := [.lit (.bool true)], args := [d1, d2] }
  | _ => none }
def fnExactSpanTimesRow : OpenClaim := { program := "ytjlldfkkkfcohaa", sum := "922b0b3868481359894e8d518eeb1a6c8e71fbcad9a396a56005455981c2e59c", func := "loop.example/fixedmath/laws.FnExactSpanTimes", spec := "fnExactSpanTimes", apart := false }
def FnExactSpanTimesSaid : Prop := fnExactSpanTimesRow.holds Try.pinned (OpenSpec.ofChange fnExactSpanTimesSpec)

/-- ITS FALSE NEIGHBOUR: 'it returns false'. Refute it at one input. -/
def fnExactSpanTimesWrong : ChangeSpec := { name := "fnExactSpanTimes", fn := fun _ => fun
  | [d1, d2] => { results := [.lit (.bool false)], args := [d1, d2] }
  | _ => none }
def FnExactSpanTimesWrongFalsely : Prop := fnExactSpanTimesRow.holds Try.pinned (OpenSpec.ofChange fnExactSpanTimesWrong)

/-- 'laws.FnExactFractionSpan': WHATEVER THE INPUT: true; the input reads as it did. -/
def fnExactFractionSpanSpec : ChangeSpec := { name := "fnExactFractionSpan", fn := fun _ => fun
  | [d1, d2] => { results := [.lit (.bool true)], args := [d1, d2] }
  | _ => none }
def fnExactFractionSpanRow : OpenClaim := { program := "ytjlldfkkkfcohaa", sum := "922b0b3868481359894e8d518eeb1a6c8e71fbcad9a396a56005455981c2e59c", func := "loop.example/fixedmath/laws.FnExactFractionSpan", spec := "fnExactFractionSpan", apart := false }
def FnExactFractionSpanSaid : Prop := fnExactFractionSpanRow.holds Try.pinned (OpenSpec.ofChange fnExactFractionSpanSpec)

/-- ITS FALSE NEIGHBOUR: 'it returns false'. Refute it at one input. -/
def fnExactFractionSpanWrong : ChangeSpec := { name := "fnExactFractionSpan", fn := fun _ => fun
  | [d1, d2] => { results := [.lit (.bool false)], args := [d1, d2] }
  | _ => none }
def FnExactFractionSpanWrongFalsely : Prop := fnExactFractionSpanRow.holds Try.pinned (OpenSpec.ofChange fnExactFractionSpanWrong)

/-- 'laws.FnExactSpanDiv': WHATEVER THE INPUT: true; the input reads as it did. -/
def fnExactSpanDivSpec : ChangeSpec := { name := "fnExactSpanDiv", fn := fun _ => fun
  | [d1, d2] => { results := [.lit (.bool true)], args := [d1, d2] }
  | _ => none }
def fnExactSpanDivRow : OpenClaim := { program := "ytjlldfkkkfcohaa", sum := "922b0b3868481359894e8d518eeb1a6c8e71fbcad9a396a56005455981c2e59c", func := "loop.example/fixedmath/laws.FnExactSpanDiv", spec := "fnExactSpanDiv", apart := false }
def FnExactSpanDivSaid : Prop := fnExactSpanDivRow.holds Try.pinned (OpenSpec.ofChange fnExactSpanDivSpec)

/-- ITS FALSE NEIGHBOUR: 'it returns false'. Refute it at one input. -/
def fnExactSpanDivWrong : ChangeSpec := { name := "fnExactSpanDiv", fn := fun _ => fun
  | [d1, d2] => { results := [.lit (.bool false)], args := [d1, d2] }
  | _ => none }
def FnExactSpanDivWrongFalsely : Prop := fnExactSpanDivRow.holds Try.pinned (OpenSpec.ofChange fnExactSpanDivWrong)

/-- 'laws.FnExactLogTwoSpan': WHATEVER THE INPUT: true; the input reads as it did. -/
def fnExactLogTwoSpanSpec : ChangeSpec := { name := "fnExactLogTwoSpan", fn := fun _ => fun
  | [] => { results := [.lit (.bool true)], args := [] }
  | _ => none }
def fnExactLogTwoSpanRow : OpenClaim := { program := "ytjlldfkkkfcohaa", sum := "922b0b3868481359894e8d518eeb1a6c8e71fbcad9a396a56005455981c2e59c", func := "loop.example/fixedmath/laws.FnExactLogTwoSpan", spec := "fnExactLogTwoSpan", apart := false }
def FnExactLogTwoSpanSaid : Prop := fnExactLogTwoSpanRow.holds Try.pinned (OpenSpec.ofChange fnExactLogTwoSpanSpec)

/-- ITS FALSE NEIGHBOUR: 'it returns false'. Refute it at one input. -/
def fnExactLogTwoSpanWrong : ChangeSpec := { name := "fnExactLogTwoSpan", fn := fun _ => fun
  | [] => { results := [.lit (.bool false)], args := [] }
  | _ => none }
def FnExactLogTwoSpanWrongFalsely : Prop := fnExactLogTwoSpanRow.holds Try.pinned (OpenSpec.ofChange fnExactLogTwoSpanWrong)

/-- 'laws.FnExactArcSpan': WHATEVER THE INPUT: true; the input reads as it did. -/
def fnExactArcSpanSpec : ChangeSpec := { name := "fnExactArcSpan", fn := fun _ => fun
  | [d] => { results := [.lit (.bool true)], args := [d] }
  | _ => none }
def fnExactArcSpanRow : OpenClaim := { program := "ytjlldfkkkfcohaa", sum := "922b0b3868481359894e8d518eeb1a6c8e71fbcad9a396a56005455981c2e59c", func := "loop.example/fixedmath/laws.FnExactArcSpan", spec := "fnExactArcSpan", apart := false }
def FnExactArcSpanSaid : Prop := fnExactArcSpanRow.holds Try.pinned (OpenSpec.ofChange fnExactArcSpanSpec)

/-- ITS FALSE NEIGHBOUR: 'it returns false'. Refute it at one input. -/
def fnExactArcSpanWrong : ChangeSpec := { name := "fnExactArcSpan", fn := fun _ => fun
  | [d] => { results := [.lit (.bool false)], args := [d] }
  | _ => none }
def FnExactArcSpanWrongFalsely : Prop := fnExactArcSpanRow.holds Try.pinned (OpenSpec.ofChange fnExactArcSpanWrong)

/-- 'laws.FnSpanValid': WHATEVER THE INPUT: true; the input reads as it did. -/
def fnSpanValidSpec : ChangeSpec := { name := "fnSpanValid", fn := fun _ => fun
  | [d] => { results := [.lit (.bool true)], args := [d] }
  | _ => none }
def fnSpanValidRow : OpenClaim := { program := "ytjlldfkkkfcohaa", sum := "922b0b3868481359894e8d518eeb1a6c8e71fbcad9a396a56005455981c2e59c", func := "loop.example/fixedmath/laws.FnSpanValid", spec := "fnSpanValid", apart := false }
def FnSpanValidSaid : Prop := fnSpanValidRow.holds Try.pinned (OpenSpec.ofChange fnSpanValidSpec)

/-- ITS FALSE NEIGHBOUR: 'it returns false'. Refute it at one input. -/
def fnSpanValidWrong : ChangeSpec := { name := "fnSpanValid", fn := fun _ => fun
  | [d] => { results := [.lit (.bool false)], args := [d] }
  | _ => none }
def FnSpanValidWrongFalsely : Prop := fnSpanValidRow.holds Try.pinned (OpenSpec.ofChange fnSpanValidWrong)

/-- 'laws.FnSpanHas': WHATEVER THE INPUT: true; the input reads as it did. -/
def fnSpanHasSpec : ChangeSpec := { name := "fnSpanHas", fn := fun _ => fun
  | [d] => { results := [.lit (.bool true)], args := [d] }
  | _ => none }
def fnSpanHasRow : OpenClaim := { program := "ytjlldfkkkfcohaa", sum := "922b0b3868481359894e8d518eeb1a6c8e71fbcad9a396a56005455981c2e59c", func := "loop.example/fixedmath/laws.FnSpanHas", spec := "fnSpanHas", apart := false }
def FnSpanHasSaid : Prop := fnSpanHasRow.holds Try.pinned (OpenSpec.ofChange fnSpanHasSpec)

/-- ITS FALSE NEIGHBOUR: 'it returns false'. Refute it at one input. -/
def fnSpanHasWrong : ChangeSpec := { name := "fnSpanHas", fn := fun _ => fun
  | [d] => { results := [.lit (.bool false)], args := [d] }
  | _ => none }
def FnSpanHasWrongFalsely : Prop := fnSpanHasRow.holds Try.pinned (OpenSpec.ofChange fnSpanHasWrong)

/-- 'laws.FnLogTwoSpan': WHATEVER THE INPUT: true; the input reads as it did. -/
def fnLogTwoSpanSpec : ChangeSpec := { name := "fnLogTwoSpan", fn := fun _ => fun
  | [d] => { results := [.lit (.bool true)], args := [d] }
  | _ => none }
def fnLogTwoSpanRow : OpenClaim := { program := "ytjlldfkkkfcohaa", sum := "922b0b3868481359894e8d518eeb1a6c8e71fbcad9a396a56005455981c2e59c", func := "loop.example/fixedmath/laws.FnLogTwoSpan", spec := "fnLogTwoSpan", apart := false }
def FnLogTwoSpanSaid : Prop := fnLogTwoSpanRow.holds Try.pinned (OpenSpec.ofChange fnLogTwoSpanSpec)

/-- ITS FALSE NEIGHBOUR: 'it returns false'. Refute it at one input. -/
def fnLogTwoSpanWrong : ChangeSpec := { name := "fnLogTwoSpan", fn := fun _ => fun
  | [d] => { results := [.lit (.bool false)], args := [d] }
  | _ => none }
def FnLogTwoSpanWrongFalsely : Prop := fnLogTwoSpanRow.holds Try.pinned (OpenSpec.ofChange fnLogTwoSpanWrong)

/- THE SECOND FORM. 'bulk': how many values and letters a reading holds, each counted each time it is reached (what is shared counts as often as it is met; a slice's spare places count too). A statement '..UptoSaid' is the law's where the arguments, and the package variables that the reading takes, are together of bulk at most 1048576: NARROWER than '..Said'. Prove '..Said' where nothing that the law and all that it calls make is longer than what came in: it says more and counts as full. Else prove '..UptoSaid'. A law counts once. -/
mutual
def uptoBulk {H : Type} : DataW H → Nat
  | .lit (.string bytes) => bytes.length + 1
  | .lit _ => 1
  | .nil => 1
  | .ptr d => uptoBulk d + 1
  | .slice elems spare => uptoBulkAll elems + uptoBulkAll spare + 1
  | .agg parts => uptoBulkAll parts + 1
  | .iface _ d => uptoBulk d + 1
  | .map entries => uptoBulkEntries entries + 1
  | .held _ => 1
def uptoBulkAll {H : Type} : List (DataW H) → Nat
  | [] => 0
  | d :: r => uptoBulk d + uptoBulkAll r
def uptoBulkEntries {H : Type} : List (Lit × DataW H) → Nat
  | [] => 0
  | x :: r => uptoBulkEntry x + uptoBulkEntries r
def uptoBulkEntry {H : Type} : Lit × DataW H → Nat
  | (.string bytes, d) => bytes.length + uptoBulk d + 1
  | (_, d) => uptoBulk d + 1
 end
def uptoSmall : (H : Type) → List (DataW H) → Bool := fun _ ds => decide (uptoBulkAll ds ≤ 1048576)
def OpenSpec.upto (s : _root_.Go.ChangeSpec) : _root_.Go.OpenSpec := { _root_.Go.OpenSpec.ofChange s with cond := some uptoSmall }

/-- 'laws.FnExactSpanNeg', WHERE WHAT IT READS IS OF BULK AT MOST 1048576: true; the input reads as it did. -/
def fnExactSpanNegUptoRow : OpenClaim := { program := "ytjlldfkkkfcohaa", sum := "922b0b3868481359894e8d518eeb1a6c8e71fbcad9a396a56005455981c2e59c", func := "loop.example/fixedmath/laws.FnExactSpanNeg", spec := "fnExactSpanNeg", apart := false, narrowed := true }
def FnExactSpanNegUptoSaid : Prop := fnExactSpanNegUptoRow.holds Try.pinned (OpenSpec.upto fnExactSpanNegSpec)

/-- 'laws.FnExactSpanAdd', WHERE WHAT IT READS IS OF BULK AT MOST 1048576: true; the input reads as it did. -/
def fnExactSpanAddUptoRow : OpenClaim := { program := "ytjlldfkkkfcohaa", sum := "922b0b3868481359894e8d518eeb1a6c8e71fbcad9a396a56005455981c2e59c", func := "loop.example/fixedmath/laws.FnExactSpanAdd", spec := "fnExactSpanAdd", apart := false, narrowed := true }
def FnExactSpanAddUptoSaid : Prop := fnExactSpanAddUptoRow.holds Try.pinned (OpenSpec.upto fnExactSpanAddSpec)

/-- 'laws.FnExactSpanMeet', WHERE WHAT IT READS IS OF BULK AT MOST 1048576: true; the input reads as it did. -/
def fnExactSpanMeetUptoRow : OpenClaim := { program := "ytjlldfkkkfcohaa", sum := "922b0b3868481359894e8d518eeb1a6c8e71fbcad9a396a56005455981c2e59c", func := "loop.example/fixedmath/laws.FnExactSpanMeet", spec := "fnExactSpanMeet", apart := false, narrowed := true }
def FnExactSpanMeetUptoSaid : Prop := fnExactSpanMeetUptoRow.holds Try.pinned (OpenSpec.upto fnExactSpanMeetSpec)

/-- 'laws.FnExactSpanTimes', WHERE WHAT IT READS IS OF BULK AT MOST 1048576: true; the input reads as it did. -/
def fnExactSpanTimesUptoRow : OpenClaim := { program := "ytjlldfkkkfcohaa", sum := "922b0b3868481359894e8d518eeb1a6c8e71fbcad9a396a56005455981c2e59c", func := "loop.example/fixedmath/laws.FnExactSpanTimes", spec := "fnExactSpanTimes", apart := false, narrowed := true }
def FnExactSpanTimesUptoSaid : Prop := fnExactSpanTimesUptoRow.holds Try.pinned (OpenSpec.upto fnExactSpanTimesSpec)

/-- 'laws.FnExactFractionSpan', WHERE WHAT IT READS IS OF BULK AT MOST 1048576: true; the input reads as it did. -/
def fnExactFractionSpanUptoRow : OpenClaim := { program := "ytjlldfkkkfcohaa", sum := "922b0b3868481359894e8d518eeb1a6c8e71fbcad9a396a56005455981c2e59c", func := "loop.example/fixedmath/laws.FnExactFractionSpan", spec := "fnExactFractionSpan", apart := false, narrowed := true }
def FnExactFractionSpanUptoSaid : Prop := fnExactFractionSpanUptoRow.holds Try.pinned (OpenSpec.upto fnExactFractionSpanSpec)

/-- 'laws.FnExactSpanDiv', WHERE WHAT IT READS IS OF BULK AT MOST 1048576: true; the input reads as it did. -/
def fnExactSpanDivUptoRow : OpenClaim := { program := "ytjlldfkkkfcohaa", sum := "922b0b3868481359894e8d518eeb1a6c8e71fbcad9a396a56005455981c2e59c", func := "loop.example/fixedmath/laws.FnExactSpanDiv", spec := "fnExactSpanDiv", apart := false, narrowed := true }
def FnExactSpanDivUptoSaid : Prop := fnExactSpanDivUptoRow.holds Try.pinned (OpenSpec.upto fnExactSpanDivSpec)

/-- 'laws.FnExactLogTwoSpan', WHERE WHAT IT READS IS OF BULK AT MOST 1048576: true; the input reads as it did. -/
def fnExactLogTwoSpanUptoRow : OpenClaim := { program := "ytjlldfkkkfcohaa", sum := "922b0b3868481359894e8d518eeb1a6c8e71fbcad9a396a56005455981c2e59c", func := "loop.example/fixedmath/laws.FnExactLogTwoSpan", spec := "fnExactLogTwoSpan", apart := false, narrowed := true }
def FnExactLogTwoSpanUptoSaid : Prop := fnExactLogTwoSpanUptoRow.holds Try.pinned (OpenSpec.upto fnExactLogTwoSpanSpec)

/-- 'laws.FnExactArcSpan', WHERE WHAT IT READS IS OF BULK AT MOST 1048576: true; the input reads as it did. -/
def fnExactArcSpanUptoRow : OpenClaim := { program := "ytjlldfkkkfcohaa", sum := "922b0b3868481359894e8d518eeb1a6c8e71fbcad9a396a56005455981c2e59c", func := "loop.example/fixedmath/laws.FnExactArcSpan", spec := "fnExactArcSpan", apart := false, narrowed := true }
def FnExactArcSpanUptoSaid : Prop := fnExactArcSpanUptoRow.holds Try.pinned (OpenSpec.upto fnExactArcSpanSpec)

/-- 'laws.FnSpanValid', WHERE WHAT IT READS IS OF BULK AT MOST 1048576: true; the input reads as it did. -/
def fnSpanValidUptoRow : OpenClaim := { program := "ytjlldfkkkfcohaa", sum := "922b0b3868481359894e8d518eeb1a6c8e71fbcad9a396a56005455981c2e59c", func := "loop.example/fixedmath/laws.FnSpanValid", spec := "fnSpanValid", apart := false, narrowed := true }
def FnSpanValidUptoSaid : Prop := fnSpanValidUptoRow.holds Try.pinned (OpenSpec.upto fnSpanValidSpec)

/-- 'laws.FnSpanHas', WHERE WHAT IT READS IS OF BULK AT MOST 1048576: true; the input reads as it did. -/
def fnSpanHasUptoRow : OpenClaim := { program := "ytjlldfkkkfcohaa", sum := "922b0b3868481359894e8d518eeb1a6c8e71fbcad9a396a56005455981c2e59c", func := "loop.example/fixedmath/laws.FnSpanHas", spec := "fnSpanHas", apart := false, narrowed := true }
def FnSpanHasUptoSaid : Prop := fnSpanHasUptoRow.holds Try.pinned (OpenSpec.upto fnSpanHasSpec)

/-- 'laws.FnLogTwoSpan', WHERE WHAT IT READS IS OF BULK AT MOST 1048576: true; the input reads as it did. -/
def fnLogTwoSpanUptoRow : OpenClaim := { program := "ytjlldfkkkfcohaa", sum := "922b0b3868481359894e8d518eeb1a6c8e71fbcad9a396a56005455981c2e59c", func := "loop.example/fixedmath/laws.FnLogTwoSpan", spec := "fnLogTwoSpan", apart := false, narrowed := true }
def FnLogTwoSpanUptoSaid : Prop := fnLogTwoSpanUptoRow.holds Try.pinned (OpenSpec.upto fnLogTwoSpanSpec)

end Rows
end Go.Proofs.Ytjlldfkkkfcohaa

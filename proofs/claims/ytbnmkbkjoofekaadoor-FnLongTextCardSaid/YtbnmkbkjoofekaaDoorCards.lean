/-
  DERIVED. GIVEN WITH THE SEED: THE CARDS: each row of YtbnmkbkjoofekaaDoorRows.lean that lists a variable, with what it lists TIED to the program's text (the seventh form; the later family's looks); each row that meets fmt, with fmt's text TOLD by the authors' own Lean function (tested against real Go, not proved from fmt's source: count such statements apart). THE CARD IS WHAT COUNTS. Prove the row's statement (the work); the ties are given (YtbnmkbkjoofekaaDoorTie.lean); close each card by the builder's one call (the guide's Derived/Test/ToyasCard.lean, 'card_holds'). Laid BY PROGRAM, IN A SANDBOX (cutbox-door.mjs). By AI agents, Wed Nov 11 2026. No macro, syntax, notation, axiom, sorry.
-/
import Derived.Test.YtbnmkbkjoofekaaDoorRows
import GoSem.ClaimSeven
namespace Go.Proofs.YtbnmkbkjoofekaaDoor
namespace Rows

/-- THE TIED CARD OF 'laws.FnExactLongText'. -/
def fnExactLongTextCard : Claim7 := { stood := { row := fnExactLongTextRow, standIns := [], harness := (true, "42e780a135b7afd29ef9587d4d61b0d1f41520e76c718cee9804a34d9a029fdb"), looks := false }, kinds := [], alts := [], laidByText := true, laidKinds := [.data, .data, .data], laidTests := true, laidLooks := .later }
def FnExactLongTextCardSaid : Prop := Claim7.holds Tryd.pinned (.plain (OpenSpec.ofChange fnExactLongTextSpec)) fnExactLongTextCard

/-- THE TIED CARD OF 'laws.FnLongText'. -/
def fnLongTextCard : Claim7 := { stood := { row := fnLongTextRow, standIns := [], harness := (true, "42e780a135b7afd29ef9587d4d61b0d1f41520e76c718cee9804a34d9a029fdb"), looks := false }, kinds := [], alts := [], laidByText := true, laidKinds := [.data, .data, .data], laidTests := true, laidLooks := .later }
def FnLongTextCardSaid : Prop := Claim7.holds Tryd.pinned (.plain (OpenSpec.ofChange fnLongTextSpec)) fnLongTextCard

/-- THE SECOND FORM's CARD OF 'laws.FnExactLongText'. -/
def fnExactLongTextUptoCard : Claim7 := { stood := { row := fnExactLongTextUptoRow, standIns := [], harness := (true, "42e780a135b7afd29ef9587d4d61b0d1f41520e76c718cee9804a34d9a029fdb"), looks := false }, kinds := [], alts := [], laidByText := true, laidKinds := [.data, .data, .data], laidTests := true, laidLooks := .later }
def FnExactLongTextUptoCardSaid : Prop := Claim7.holds Tryd.pinned (.plain (OpenSpec.upto fnExactLongTextSpec)) fnExactLongTextUptoCard

/-- THE SECOND FORM's CARD OF 'laws.FnLongText'. -/
def fnLongTextUptoCard : Claim7 := { stood := { row := fnLongTextUptoRow, standIns := [], harness := (true, "42e780a135b7afd29ef9587d4d61b0d1f41520e76c718cee9804a34d9a029fdb"), looks := false }, kinds := [], alts := [], laidByText := true, laidKinds := [.data, .data, .data], laidTests := true, laidLooks := .later }
def FnLongTextUptoCardSaid : Prop := Claim7.holds Tryd.pinned (.plain (OpenSpec.upto fnLongTextSpec)) fnLongTextUptoCard
end Rows
end Go.Proofs.YtbnmkbkjoofekaaDoor

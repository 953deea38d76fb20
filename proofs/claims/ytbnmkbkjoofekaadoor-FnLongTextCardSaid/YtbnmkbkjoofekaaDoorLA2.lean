/- Contracts of the sums of long numbers. -/
import Derived.Test.YtbnmkbkjoofekaaDoorLA
namespace Go.Proofs.YtbnmkbkjoofekaaDoor.K
open Go.RowKit

theorem LongValid_is (b : Bool) (lo : Nat) (ao : Option Addr) (cap : Nat) (xs : List Int) (w : World) (h : Row w lo ao cap xs) (hv : lv xs = b) : Calls Tryd.prog 12 #[.slice ao xs.length cap] w fun e w' => e = .returned (.bool b) ∧ w = w' := by
  subst hv; exact LongValid_any lo ao cap xs w h
theorem sLongValid_is (b : Bool) (lo : Nat) (ao : Option Addr) (cap : Nat) (xs : List Int) (w : World) (h : Row w lo ao cap xs) (hv : lv xs = b) : Calls Tryd.prog 10 #[.slice ao xs.length cap] w fun e w' => e = .returned (.bool b) ∧ w = w' := by
  subst hv; exact sLongValid_any lo ao cap xs w h

/-- The digits, if there are not too many. -/
def fitL (n : Nat) : List Int × Bool := if n < 10000 ^ 60 then (ofN n, true) else ([], false)
theorem fitL_yes {n : Nat} (h : n < 10000 ^ 60) : fitL n = (ofN n, true) := if_pos h
theorem fitL_no {n : Nat} (h : ¬ n < 10000 ^ 60) : fitL n = ([], false) := if_neg h


theorem addL_in {xs ys : List Int} (h : lv xs = true) (h' : lv ys = true) : addL xs ys = fitL (toN xs + toN ys) := by
  unfold addL fitL
  rw [h, h']
  simp
theorem addL_no {xs ys : List Int} (h : lv xs = false ∨ lv ys = false) : addL xs ys = ([], false) := by
  unfold addL
  rcases h with h | h <;> rw [h] <;> simp


theorem row_empty (w : World) : Row (w.alloc (.cells #[] 3)) w.heap.size (some ⟨w.heap.size, 0, none⟩) 0 [] := (Row.of_own (xs := []) (World.ownsRow_lit w #[] 0 (Nat.le_refl _) (by decide) rfl)).2


end Go.Proofs.YtbnmkbkjoofekaaDoor.K

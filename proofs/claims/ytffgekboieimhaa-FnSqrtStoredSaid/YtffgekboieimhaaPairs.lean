/- More on structs of two numbers in a block. -/
import Derived.Test.YtffgekboieimhaaDraw3
namespace Go.Proofs.Ytffgekboieimhaa.K
open Go.RowKit

theorem Pair.set0 {w : World} {b : Nat} {x y : Int} {t : TypeId} (h : Pair w b x y t) (x' : Int) : Pair (w.setCell ⟨b, 0, none⟩ (.int .i64 x')) b x' y t := by
  unfold Pair at *
  simp [World.setCell, Array.getElem?_modify, h]
theorem Pair.set1 {w : World} {b : Nat} {x y : Int} {t : TypeId} (h : Pair w b x y t) (y' : Int) : Pair (w.setCell ⟨b, 1, none⟩ (.int .i64 y')) b x y' t := by
  unfold Pair at *
  simp [World.setCell, Array.getElem?_modify, h]
theorem Pair.drew {w : World} {b : Nat} {x y : Int} {t : TypeId} (h : Pair w b x y t) : Pair w.drew b x y t := h
theorem Pair.below {w w' : World} {b : Nat} {x y : Int} {t : TypeId} (h : Pair w b x y t) (hb : Below w.heap.size w w') : Pair w' b x y t := by
  have hl : b < w.heap.size := by
    rcases Nat.lt_or_ge b w.heap.size with hlt | hge
    · exact hlt
    · unfold Pair at h; rw [Array.getElem?_eq_none hge] at h; cases h
  exact (hb.block b hl).trans h

end Go.Proofs.Ytffgekboieimhaa.K

/- Contracts of the functions that draw formats and stored numbers. -/
import Derived.Test.YtjlldfkkkfcohaaDraw2
import Derived.Test.YtjlldfkkkfcohaaFmt
namespace Go.Proofs.Ytjlldfkkkfcohaa.K
open Go.RowKit

/-- What a draw of a format from a reader leaves. -/
def PickF (w : World) (B lim : Nat) (e : Ending) (w' : World) : Prop := ∃ a b : Int, (0 ≤ a ∧ a ≤ 13) ∧ (-1 ≤ b ∧ b ≤ 17) ∧ e = .returned (.agg #[.int .i64 a, .int .i64 b]) ∧ Rd w' B lim ∧ w.grownBy w' (some B)

/-- a struct of two numbers that lies in a block -/
def Pair (w : World) (b : Nat) (x y : Int) (t : TypeId) : Prop := w.heap[b]? = some (.cells #[.int .i64 x, .int .i64 y] t (0, 0))
theorem Pair.cells {w : World} {b : Nat} {x y : Int} {t : TypeId} (h : Pair w b x y t) : (w.cell? ⟨b, 0, none⟩ = some (.int .i64 x) ∧ w.cell? ⟨b, 1, none⟩ = some (.int .i64 y)) ∧ w.frozen? ⟨b, 0, none⟩ = false ∧ w.frozen? ⟨b, 1, none⟩ = false := by
  unfold Pair at h
  refine ⟨⟨?_, ?_⟩, ?_, ?_⟩
  · rw [cell_of_row w b 0 _ _ _ h]; rfl
  · rw [cell_of_row w b 1 _ _ _ h]; rfl
  · simp [World.frozen?, h]
  · simp [World.frozen?, h]
theorem Pair.grown {w w' : World} {b B : Nat} {x y : Int} {t : TypeId} (h : Pair w b x y t) (g : w.grownBy w' (some B)) (hn : b ≠ B) : Pair w' b x y t := by
  have hb : b < w.heap.size := by
    rcases Nat.lt_or_ge b w.heap.size with hlt | hge
    · exact hlt
    · unfold Pair at h; rw [Array.getElem?_eq_none hge] at h; cases h
  exact (g.block b hb (fun e => hn (by injection e))).trans h
theorem Pair.alloc {w : World} {b : Nat} {x y : Int} {t : TypeId} (h : Pair w b x y t) (o : Obj) : Pair (w.alloc o) b x y t := by
  have hb : b < w.heap.size := by
    rcases Nat.lt_or_ge b w.heap.size with hlt | hge
    · exact hlt
    · unfold Pair at h; rw [Array.getElem?_eq_none hge] at h; cases h
  exact (Below.heap_alloc _ _ _ hb).trans h
theorem Pair.new (w : World) (x y : Int) (t : TypeId) : Pair (w.alloc (.cells #[.int .i64 x, .int .i64 y] t)) w.heap.size x y t := heap_alloc_new w _
theorem Pair.set {w : World} {b : Nat} {x y : Int} {t : TypeId} (h : Pair w b x y t) (x' y' : Int) : Pair ((w.setCell ⟨b, 0, none⟩ (.int .i64 x')).setCell ⟨b, 1, none⟩ (.int .i64 y')) b x' y' t := by
  unfold Pair at *
  simp [World.setCell, Array.getElem?_modify, h]
theorem Pair.keep {w : World} {b : Nat} {x y : Int} {t : TypeId} (h : Pair w b x y t) {a : Addr} (ha : b ≠ a.block) (u : Value) : Pair (w.setCell a u) b x y t := (Below.heap_setCell _ _ _ _ ha).trans h


end Go.Proofs.Ytjlldfkkkfcohaa.K

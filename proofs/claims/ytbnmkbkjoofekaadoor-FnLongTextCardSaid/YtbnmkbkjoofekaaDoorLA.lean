/- Contracts of the functions that make and add long numbers. -/
import Derived.Test.YtbnmkbkjoofekaaDoorLV
namespace Go.Proofs.YtbnmkbkjoofekaaDoor.K
open Go.RowKit

/-- The value s owns the digits m in a block of the call's own. -/
def Own (w : World) (lo : Nat) (s : Value) (m : List Nat) : Prop := w.ownsRow lo 3 1 s m.length (vs (m.map Int.ofNat))
theorem own_snoc {w' : World} {lo : Nat} {s' : Value} {m : List Nat} {x : Int} (d : Nat) (hx : x = (d : Int)) (h : w'.ownsRow lo 3 1 s' (m.length + 1) (vs (m.map Int.ofNat) ++ [Value.int .i64 x])) : Own w' lo s' (m ++ [d]) := by
  subst hx
  unfold Own
  rw [List.length_append, List.length_singleton]
  have e : vs ((m ++ [d]).map Int.ofNat) = vs (m.map Int.ofNat) ++ [Value.int .i64 (d : Int)] := by unfold vs; simp
  rw [e]; exact h
theorem Own.row {w : World} {lo : Nat} {s : Value} {m : List Nat} (h : Own w lo s m) : ∃ ao cap, s = .slice ao m.length cap ∧ Row w lo ao cap (m.map Int.ofNat) ∧ (s ≠ .slice none 0 0 → ∃ g, ao = some ⟨g, 0, none⟩) := by
  rcases h.2 with ⟨h1, h2⟩ | ⟨g, cap, cur, h1, _⟩
  · have hm : m = [] := List.eq_nil_of_length_eq_zero h2
    subst hm h1
    exact ⟨none, 0, rfl, Row.nil _ _, fun h => absurd rfl h⟩
  · subst h1
    exact ⟨_, cap, rfl, (Row.of_own (xs := m.map Int.ofNat) (by simpa [Own] using h)).2, fun _ => ⟨g, rfl⟩⟩
theorem below_app {B n : Nat} {w0 wr w' : World} {v : Value} {xs : List Value} (hb : Below B w0 wr) (hB : B ≤ wr.heap.size) (o : Obj) (hown : wr.ownsRow B 3 1 v n xs) (hg : (wr.alloc o).grownBy w' v.ownBlock) : Below B w0 w' :=
  (hb.alloc hB o).grown hg (by simp; omega) (fun k e => (hown.lt k e).1)
theorem one_cell {w : World} {g : Nat} {u : Value} {o : Obj} (h : w.heap[g]? = some o) (ho : o = .cells #[u] 3) : ∀ j x, [u][j]? = some x → w.cell? ((⟨g, 0, none⟩ : Addr).add j) = some x := by
  intro j x hx
  subst ho
  match j, hx with
  | 0, hx =>
    simp at hx; subst hx
    have e : ((⟨g, 0, none⟩ : Addr).add 0) = ⟨g, 0, none⟩ := by simp [Addr.add]
    rw [e, cell_of_row w g 0 _ 3 (0, 0) h]; rfl
theorem one_flat (x : Int) : ∀ u ∈ [Value.int .i64 x], u.oneCell' = true := by intro u hu; simp at hu; subst hu; rfl
theorem digs_short {n : Nat} (h : n ≤ 1152921504606846976) : (digs n).length ≤ 16 := (digs_len n 16).2 (by omega)






end Go.Proofs.YtbnmkbkjoofekaaDoor.K

/- Contracts of the functions that draw one long number or two. -/
import Derived.Test.YtbnmkbkjoofekaaDoorLD
import Derived.Test.YtbnmkbkjoofekaaDoorLU
namespace Go.Proofs.YtbnmkbkjoofekaaDoor.K
open Go.RowKit

def DrewL (w : World) (e : Ending) (w' : World) : Prop := ∃ g cap xs, e = .returned (.slice (some ⟨g, 0, none⟩) xs.length cap) ∧ Row w' w.heap.size (some ⟨g, 0, none⟩) cap xs ∧ xs.length ≤ 61 ∧ Below w.heap.size w w'
def DrewLL (w : World) (e : Ending) (w' : World) : Prop := ∃ g cap xs g' cap' ys, e = .returned (.tuple #[.slice (some ⟨g, 0, none⟩) xs.length cap, .slice (some ⟨g', 0, none⟩) ys.length cap']) ∧ Row w' w.heap.size (some ⟨g, 0, none⟩) cap xs ∧ xs.length ≤ 61 ∧ Row w' w.heap.size (some ⟨g', 0, none⟩) cap' ys ∧ ys.length ≤ 61 ∧ Below w.heap.size w w'
/-- a row that is no reader stays over a draw -/
theorem Row.picked {w w' : World} {lo B : Nat} {ao : Option Addr} {cap : Nat} {xs : List Int} (h : Row w lo ao cap xs) (hg : w.grownBy w' (some B)) (hB : B < lo) : Row w' lo ao cap xs :=
  h.grown hg (fun e => by have := h.bot B e; omega)
theorem row_cells {w : World} {lo g cap : Nat} {xs : List Int} (h : Row w lo (some ⟨g, 0, none⟩) cap xs) : ∀ j u, (vs xs)[j]? = some u → w.cell? ((⟨g, 0, none⟩ : Addr).add j) = some u := by
  intro j u hu
  have hj : j < xs.length := by have := (List.getElem?_eq_some_iff.1 hu).1; simpa [vs] using this
  have e : ((⟨g, 0, none⟩ : Addr).add j) = ⟨g, j, none⟩ := by unfold Addr.add; split <;> simp_all
  rw [e, h.cell hj, ← hu]
  simp only [vs, List.getElem?_map, List.getElem?_eq_getElem hj, Option.map_some, List.getD_eq_getElem?_getD]
  rfl

/-- 'append([]int{}, a...)' -/
theorem copy_step {w1 w2 : World} {s' : Value} {xs : List Int} (hown' : w2.ownsRow w1.heap.size 3 1 s' xs.length (vs xs)) (hgrow : (w1.alloc (.cells #[] 3)).grownBy w2 (some w1.heap.size)) (hne : s' ≠ .slice none 0 0) :
    OwnI w2 w1.heap.size s' xs ∧ Below w1.heap.size w1 w2 ∧ ∃ g' c', s' = .slice (some ⟨g', 0, none⟩) xs.length c' ∧ Row w2 w1.heap.size (some ⟨g', 0, none⟩) c' xs := by
  have o : OwnI w2 w1.heap.size s' xs := hown'
  refine ⟨o, ?_, o.row hne⟩
  exact ((Below.refl _ _).alloc (Nat.le_refl _) _).grown hgrow (by simp) (fun k e => by injection e with e; omega)
theorem own_snocI {w' : World} {lo : Nat} {s' : Value} {xs : List Int} {u : Int} (h : w'.ownsRow lo 3 1 s' (xs.length + 1) (vs xs ++ [Value.int .i64 u])) : OwnI w' lo s' (xs ++ [u]) := by
  unfold OwnI
  rw [List.length_append, List.length_singleton]
  have e : vs (xs ++ [u]) = vs xs ++ [Value.int .i64 u] := by unfold vs; simp
  rw [e]; exact h

theorem DrawLongText_any (a : Option Addr) (len cap : Nat) (zs : List Int) (w : World) (h : IsRow .u8 w a len cap zs) : Calls Tryd.prog 9 #[.slice a len cap] w (DrewL w) := by
  go_enter Tryd.func9, Tryd.ntmps9
  go_wp2_with fail
  refine (l20Open_any _ _ _ _ _ h).mono ?_
  rintro e w0 ⟨B, hB, rfl, hr0, hb0⟩
  have hs0 := hb0.size
  go_wp2_with fail
  refine (l20Long_any _ _ _ _ hr0 (by omega) (by omega) (by omega)).mono ?_
  rintro e w1 ⟨g, c, xs, rfl, r1, hl1, hr1, hg1⟩
  go_wp2
  go_ret
  exact ⟨g, c, xs, rfl, r1.less hs0, hl1, bgrow hb0 hg1 hB⟩



end Go.Proofs.YtbnmkbkjoofekaaDoor.K

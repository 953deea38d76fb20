/- Contracts of the draws of formats with stored numbers. -/
import Derived.Test.YtffgekboieimhaaDraw4
import Derived.Test.YtffgekboieimhaaRoot
namespace Go.Proofs.Ytffgekboieimhaa.K
open Go.RowKit

abbrev I64 (n : Int) : Prop := -9223372036854775808 ≤ n ∧ n ≤ 9223372036854775807
def DrewFN (w : World) (e : Ending) (w' : World) : Prop := ∃ a b n : Int, I64 n ∧ e = .returned (.tuple #[.agg #[.int .i64 a, .int .i64 b], .int .i64 n]) ∧ Below w.heap.size w w'
def DrewFNN (w : World) (e : Ending) (w' : World) : Prop := ∃ a b n m : Int, I64 n ∧ I64 m ∧ e = .returned (.tuple #[.agg #[.int .i64 a, .int .i64 b], .int .i64 n, .int .i64 m]) ∧ Below w.heap.size w w'
def PickFNN (w : World) (B lim : Nat) (e : Ending) (w' : World) : Prop := ∃ a b n m : Int, I64 n ∧ I64 m ∧ e = .returned (.tuple #[.agg #[.int .i64 a, .int .i64 b], .int .i64 n, .int .i64 m]) ∧ Rd w' B lim ∧ w.grownBy w' (some B)

set_option maxHeartbeats 2000000 in
theorem DrawStoredFits_any (a : Option Addr) (len cap : Nat) (zs : List Int) (w : World) (h : IsRow .u8 w a len cap zs) : Calls Try.prog 29 #[.slice a len cap] w (DrewFN w) := by
  have R := Lib.hid (h.keep (w' := w.alloc (.cells #[.int .i64 0, .int .i64 0] 26)) (balloc (Below.refl _ _) _))
  clear h
  go_enter Try.func29, Try.ntmps29
  go_wp2_with fail
  refine (l20Open_any _ _ _ _ _ R.out).mono ?_
  rintro e w0 ⟨g, hg, rfl, hr0, hb0⟩
  have hz0 := hb0.size
  simp only [World.size_alloc] at hz0 hg
  have Q0 : Pair w0 w.heap.size 0 0 26 := (hb0.block _ (by simp)).trans (Pair.new w 0 0 26)
  go_wp2_with fail
  refine (l20Format_any _ _ _ _ hr0 (by omega) (by omega) (by omega)).mono ?_
  rintro e w1 ⟨x, y, hx, hy, rfl, hr1, hg1⟩
  have hl1 := hr1.lt
  have QW : Pair (w1.alloc (.cells #[.int .i64 x, .int .i64 y] 26)) w.heap.size 0 0 26 := (Q0.grown hg1 (by omega)).alloc _
  have PW : Pair (w1.alloc (.cells #[.int .i64 x, .int .i64 y] 26)) w1.heap.size x y 26 := Pair.new w1 x y _
  have RW := (hr1.alloc (.cells #[.int .i64 x, .int .i64 y] 26))
  have BW : Below w.heap.size w (w1.alloc (.cells #[.int .i64 x, .int .i64 y] 26)) := balloc (bgrow (bseq (balloc (Below.refl _ _) _) hb0) hg1 (by omega)) _
  have n1 : w1.heap.size ≠ g := by omega
  have n2 : w.heap.size ≠ g := by omega
  clear Q0 hr0 hb0 hg1 hr1
  go_wp2_with fail
  generalize w1.alloc (.cells #[.int .i64 x, .int .i64 y] 26) = W at *
  obtain ⟨⟨p0, p1⟩, p2, p3⟩ := PW.cells
  go_region_held3 (fun w' => w'.cell? ⟨w1.heap.size, 0, none⟩ = some (.int .i64 x) ∧ w'.cell? ⟨w1.heap.size, 1, none⟩ = some (.int .i64 y)) (first | exact ⟨p0, p1⟩ | exact ⟨c0, c1⟩ | (go_keep; done) | (go_simp; done)) (first | (go_at_call 51; refine (l20Stored_any _ _ _ _ _ _ RW.drew (by omega) (by omega) (by omega)).mono ?_; rintro e w2 ⟨n, hn, rfl, hr2, hg2⟩; have P2 := PW.drew.grown hg2 n1; obtain ⟨⟨c0, c1⟩, c2, c3⟩ := P2.cells; have Q2 := QW.drew.grown hg2 n2; obtain ⟨⟨d0, d1⟩, d2, d3⟩ := Q2.cells))
  all_goals
    have E := (Q2.set x y).cells.1
    have HB := Lib.hid (bset (bset (bgrow (bdrew BW) hg2 (by omega)) (p := ⟨w.heap.size, 0, none⟩) (by simp) (.int .i64 x)) (p := ⟨w.heap.size, 1, none⟩) (by simp) (.int .i64 y))
    go_wp2
    refine bodyPost_ret (v := .tuple #[.agg #[.int .i64 x, .int .i64 y], .int .i64 n]) (by simp [results, Try.results29, go_sem, E.1, E.2]) rfl ?_
    exact ⟨_, _, n, hn, rfl, HB.out⟩
theorem DrawCutStored_any (a : Option Addr) (len cap : Nat) (zs : List Int) (w : World) (h : IsRow .u8 w a len cap zs) : Calls Try.prog 32 #[.slice a len cap] w (DrewFN w) := by
  have R := Lib.hid (h.keep (w' := w.alloc (.cells #[.int .i64 0, .int .i64 0] 26)) (balloc (Below.refl _ _) _))
  clear h
  go_enter Try.func32, Try.ntmps32
  go_wp2_with fail
  refine (DrawStoredFits_any _ _ _ _ _ R.out).mono ?_
  rintro e w1 ⟨x, y, n, hn, rfl, hb⟩
  have Q1 := (Pair.new w 0 0 26).below hb
  obtain ⟨⟨d0, d1⟩, d2, d3⟩ := Q1.cells
  have E := (Q1.set x y).cells.1
  have HB := Lib.hid (bset (bset (bseq (balloc (Below.refl _ _) _) hb) (p := ⟨w.heap.size, 0, none⟩) (by simp) (.int .i64 x)) (p := ⟨w.heap.size, 1, none⟩) (by simp) (.int .i64 y))
  go_wp2
  refine bodyPost_ret (v := .tuple #[.agg #[.int .i64 x, .int .i64 y], .int .i64 n]) (by simp [results, Try.results32, go_sem, E.1, E.2]) rfl ?_
  exact ⟨_, _, n, hn, rfl, HB.out⟩

set_option maxHeartbeats 2000000 in
theorem l20Two_any (B lim : Nat) (w : World) (h : Rd w B lim) (hl : lim ≤ 700000) : Calls Try.prog 53 #[.pointer (some ⟨B, 0, none⟩)] w (PickFNN w B (lim + 130)) := by
  have hB := h.lt
  go_enter Try.func53, Try.ntmps53
  go_wp2_with fail
  refine (l20Format_any _ _ _ _ (h.alloc _) (by omega) (by omega) (by omega)).mono ?_
  rintro e w1 ⟨x, y, hx, hy, rfl, hr1, hg1⟩
  have hl1 := hr1.lt
  have hz1 := hg1.size
  simp only [World.size_alloc] at hz1
  have QW : Pair (w1.alloc (.cells #[.int .i64 x, .int .i64 y] 26)) w.heap.size 0 0 26 := ((Pair.new w 0 0 26).grown hg1 (by omega)).alloc _
  have PW : Pair (w1.alloc (.cells #[.int .i64 x, .int .i64 y] 26)) w1.heap.size x y 26 := Pair.new w1 x y _
  have RW := (hr1.alloc (.cells #[.int .i64 x, .int .i64 y] 26))
  have GW : w.grownBy (w1.alloc (.cells #[.int .i64 x, .int .i64 y] 26)) (some B) := galloc (gseq (galloc (World.grownBy.refl _ _) _) hg1) _
  have n1 : w1.heap.size ≠ B := by omega
  have n2 : w.heap.size ≠ B := by omega
  clear hr1 hg1
  go_wp2_with fail
  generalize w1.alloc (.cells #[.int .i64 x, .int .i64 y] 26) = W at *
  obtain ⟨⟨p0, p1⟩, p2, p3⟩ := PW.cells
  go_region_held3 (fun w' => w'.cell? ⟨w1.heap.size, 0, none⟩ = some (.int .i64 x) ∧ w'.cell? ⟨w1.heap.size, 1, none⟩ = some (.int .i64 y)) (first | exact ⟨k0, k1⟩ | exact ⟨c0, c1⟩ | exact ⟨p0, p1⟩ | (go_keep; done) | (go_simp; done)) (first
    | (go_at_call 51; refine (l20Stored_any _ _ _ _ _ _ hr2 (by omega) (by omega) (by omega)).mono ?_; rintro e w3 ⟨m, hm, rfl, hr3, hg3⟩; have P3 := P2.grown hg3 n1; obtain ⟨⟨k0, k1⟩, k2, k3⟩ := P3.cells; have Q3 := Q2.grown hg3 n2; obtain ⟨⟨d0, d1⟩, d2, d3⟩ := Q3.cells)
    | (go_at_call 51; refine (l20Stored_any _ _ _ _ _ _ RW.drew (by omega) (by omega) (by omega)).mono ?_; rintro e w2 ⟨n, hn, rfl, hr2, hg2⟩; have P2 := PW.drew.grown hg2 n1; obtain ⟨⟨c0, c1⟩, c2, c3⟩ := P2.cells; have Q2 := QW.drew.grown hg2 n2))
  all_goals
    have E := (Q3.set x y).cells.1
    have HG := Lib.hid (gset (gset (gseq (gseq (gdrew GW) hg2) hg3) (p := ⟨w.heap.size, 0, none⟩) (.inr (by simp)) (.int .i64 x)) (p := ⟨w.heap.size, 1, none⟩) (.inr (by simp)) (.int .i64 y))
    have HR := Lib.hid ((hr3.setCell (a := ⟨w.heap.size, 0, none⟩) (by simp; omega) (.int .i64 x)).setCell (a := ⟨w.heap.size, 1, none⟩) (by simp; omega) (.int .i64 y))
    go_wp2
    refine bodyPost_ret (v := .tuple #[.agg #[.int .i64 x, .int .i64 y], .int .i64 n, .int .i64 m]) (by simp [results, Try.results53, go_sem, E.1, E.2]) rfl ?_
    exact ⟨_, _, n, m, hn, hm, rfl, HR.out.more (by omega), HG.out⟩

theorem DrawAddStored_any (a : Option Addr) (len cap : Nat) (zs : List Int) (w : World) (h : IsRow .u8 w a len cap zs) : Calls Try.prog 34 #[.slice a len cap] w (DrewFNN w) := by
  have R := Lib.hid (h.keep (w' := w.alloc (.cells #[.int .i64 0, .int .i64 0] 26)) (balloc (Below.refl _ _) _))
  clear h
  go_enter Try.func34, Try.ntmps34
  go_wp2_with fail
  refine (l20Open_any _ _ _ _ _ R.out).mono ?_
  rintro e w0 ⟨g, hg, rfl, hr0, hb0⟩
  have hz0 := hb0.size
  simp only [World.size_alloc] at hz0 hg
  have Q0 : Pair w0 w.heap.size 0 0 26 := (hb0.block _ (by simp)).trans (Pair.new w 0 0 26)
  go_wp2_with fail
  refine (l20Two_any _ _ _ hr0 (by omega)).mono ?_
  rintro e w1 ⟨x, y, n, m, hn, hm, rfl, hr1, hg1⟩
  have Q1 := Q0.grown hg1 (by omega)
  obtain ⟨⟨d0, d1⟩, d2, d3⟩ := Q1.cells
  have E := (Q1.set x y).cells.1
  have HB := Lib.hid (bset (bset (bgrow (bseq (balloc (Below.refl _ _) _) hb0) hg1 (by omega)) (p := ⟨w.heap.size, 0, none⟩) (by simp) (.int .i64 x)) (p := ⟨w.heap.size, 1, none⟩) (by simp) (.int .i64 y))
  go_wp2
  refine bodyPost_ret (v := .tuple #[.agg #[.int .i64 x, .int .i64 y], .int .i64 n, .int .i64 m]) (by simp [results, Try.results34, go_sem, E.1, E.2]) rfl ?_
  exact ⟨_, _, n, m, hn, hm, rfl, HB.out⟩
theorem DrawSubStored_any (a : Option Addr) (len cap : Nat) (zs : List Int) (w : World) (h : IsRow .u8 w a len cap zs) : Calls Try.prog 33 #[.slice a len cap] w (DrewFNN w) := by
  have R := Lib.hid (h.keep (w' := w.alloc (.cells #[.int .i64 0, .int .i64 0] 26)) (balloc (Below.refl _ _) _))
  clear h
  go_enter Try.func33, Try.ntmps33
  go_wp2_with fail
  refine (l20Open_any _ _ _ _ _ R.out).mono ?_
  rintro e w0 ⟨g, hg, rfl, hr0, hb0⟩
  have hz0 := hb0.size
  simp only [World.size_alloc] at hz0 hg
  have Q0 : Pair w0 w.heap.size 0 0 26 := (hb0.block _ (by simp)).trans (Pair.new w 0 0 26)
  go_wp2_with fail
  refine (l20Two_any _ _ _ hr0 (by omega)).mono ?_
  rintro e w1 ⟨x, y, n, m, hn, hm, rfl, hr1, hg1⟩
  have Q1 := Q0.grown hg1 (by omega)
  obtain ⟨⟨d0, d1⟩, d2, d3⟩ := Q1.cells
  have E := (Q1.set x y).cells.1
  have HB := Lib.hid (bset (bset (bgrow (bseq (balloc (Below.refl _ _) _) hb0) hg1 (by omega)) (p := ⟨w.heap.size, 0, none⟩) (by simp) (.int .i64 x)) (p := ⟨w.heap.size, 1, none⟩) (by simp) (.int .i64 y))
  go_wp2
  refine bodyPost_ret (v := .tuple #[.agg #[.int .i64 x, .int .i64 y], .int .i64 n, .int .i64 m]) (by simp [results, Try.results33, go_sem, E.1, E.2]) rfl ?_
  exact ⟨_, _, n, m, hn, hm, rfl, HB.out⟩
set_option maxHeartbeats 1000000 in
theorem DrawSqrtStored_any (a : Option Addr) (len cap : Nat) (zs : List Int) (w : World) (h : IsRow .u8 w a len cap zs) : Calls Try.prog 35 #[.slice a len cap] w (DrewFN w) := by
  have R := Lib.hid (h.keep (w' := w.alloc (.cells #[.int .i64 0, .int .i64 0] 26)) (balloc (Below.refl _ _) _))
  clear h
  go_enter Try.func35, Try.ntmps35
  go_wp2_with fail
  refine (l20Open_any _ _ _ _ _ R.out).mono ?_
  rintro e w0 ⟨g, hg, rfl, hr0, hb0⟩
  have hz0 := hb0.size
  simp only [World.size_alloc] at hz0 hg
  have Q0 : Pair w0 w.heap.size 0 0 26 := (hb0.block _ (by simp)).trans (Pair.new w 0 0 26)
  go_wp2_with fail
  refine (l20Two_any _ _ _ hr0 (by omega)).mono ?_
  rintro e w1 ⟨x, y, n, m, hn, hm, rfl, hr1, hg1⟩
  have hl1 := hr1.lt
  have QW : Pair (w1.alloc (.cells #[.int .i64 x, .int .i64 y] 26)) w.heap.size 0 0 26 := (Q0.grown hg1 (by omega)).alloc _
  have PW : Pair (w1.alloc (.cells #[.int .i64 x, .int .i64 y] 26)) w1.heap.size x y 26 := Pair.new w1 x y _
  have BW : Below w.heap.size w (w1.alloc (.cells #[.int .i64 x, .int .i64 y] 26)) := balloc (bgrow (bseq (balloc (Below.refl _ _) _) hb0) hg1 (by omega)) _
  go_wp2_with fail
  refine (pick_any _ _ _ _ (hr1.alloc _) (by omega)).mono ?_
  rintro e w2 ⟨v, hv, rfl, hr2, hg2⟩
  have Q2 := QW.grown hg2 (by omega)
  have P2 := PW.grown hg2 (by omega)
  obtain ⟨⟨d0, d1⟩, d2, d3⟩ := Q2.cells
  obtain ⟨⟨c0, c1⟩, c2, c3⟩ := P2.cells
  have E := (Q2.set x y).cells.1
  have HB := Lib.hid (bset (bset (bgrow BW hg2 (by omega)) (p := ⟨w.heap.size, 0, none⟩) (by simp) (.int .i64 x)) (p := ⟨w.heap.size, 1, none⟩) (by simp) (.int .i64 y))
  by_cases hv0 : 0 < v
  · have hv0' : (0 : Int) < (v : Int) := by omega
    by_cases hn0 : n < 0
    · go_wp2
      refine bodyPost_ret (v := .tuple #[.agg #[.int .i64 x, .int .i64 y], .int .i64 (-1 - n)]) (by simp [results, Try.results35, go_sem, E.1, E.2]) rfl ?_
      exact ⟨_, _, _, by unfold I64 at *; omega, rfl, HB.out⟩
    · have hd : decide (n < 0) = false := decide_eq_false hn0
      go_wp2
      refine bodyPost_ret (v := .tuple #[.agg #[.int .i64 x, .int .i64 y], .int .i64 n]) (by simp [results, Try.results35, go_sem, E.1, E.2]) rfl ?_
      exact ⟨_, _, n, hn, rfl, HB.out⟩
  · have hv0' : ¬ (0 : Int) < (v : Int) := by omega
    go_wp2
    refine bodyPost_ret (v := .tuple #[.agg #[.int .i64 x, .int .i64 y], .int .i64 n]) (by simp [results, Try.results35, go_sem, E.1, E.2]) rfl ?_
    exact ⟨_, _, n, hn, rfl, HB.out⟩

end Go.Proofs.Ytffgekboieimhaa.K

/- The walk of the law on formats. -/
import Derived.Test.YtffgekboieimhaaDraw3
import Derived.Test.YtffgekboieimhaaRoot
namespace Go.Proofs.Ytffgekboieimhaa.K
open Go.RowKit

theorem alive_any' (w : World) : Calls Try.prog 28 #[] w fun e w' => e = .returned (.bool true) ∧ w = w' := by
  have e5 : Lib.bitLen (Int.toNat 5) = 3 := by decide
  go_enter Try.func28, Try.ntmps28
  go_wp2_with (first | (go_at_call 50; refine (BitLength_in _ _ (by omega) (by omega)).mono ?_; rintro e w' ⟨rfl, rfl⟩))
  go_ret
  exact ⟨rfl, rfl⟩

/-- What a draw of a format leaves. -/
def DrewF (w : World) (e : Ending) (w' : World) : Prop := ∃ a b : Int, (0 ≤ a ∧ a ≤ 13) ∧ (-1 ≤ b ∧ b ≤ 17) ∧ e = .returned (.agg #[.int .i64 a, .int .i64 b]) ∧ Below w.heap.size w w'

theorem DrawFormatValid_any (a : Option Addr) (len cap : Nat) (zs : List Int) (w : World) (h : IsRow .u8 w a len cap zs) : Calls Try.prog 25 #[.slice a len cap] w (DrewF w) := by
  have R := Lib.hid (h.keep (w' := w.alloc (.cells #[.int .i64 0, .int .i64 0] 26)) (balloc (Below.refl _ _) _))
  clear h
  go_enter Try.func25, Try.ntmps25
  go_wp2_with fail
  refine (l20Open_any _ _ _ _ _ R.out).mono ?_
  rintro e w0 ⟨g, hg, rfl, hr0, hb0⟩
  have hz0 := hb0.size
  simp only [World.size_alloc] at hz0 hg
  have Q0 : Pair w0 w.heap.size 0 0 26 := (hb0.block _ (by simp)).trans (Pair.new w 0 0 26)
  go_wp2_with fail
  refine (l20Format_any _ _ _ _ hr0 (by omega) (by omega) (by omega)).mono ?_
  rintro e w1 ⟨x, y, hx, hy, rfl, hr1, hg1⟩
  have Q1 := Q0.grown hg1 (by omega)
  obtain ⟨⟨d10, d11⟩, d12, d13⟩ := Q1.cells
  have E := (Q1.set x y).cells.1
  go_wp2
  refine bodyPost_ret (v := .agg #[.int .i64 x, .int .i64 y]) (by simp [results, Try.results25, go_sem, E.1, E.2]) rfl ?_
  exact ⟨_, _, hx, hy, rfl, bset (bset (bgrow (bseq (balloc (Below.refl _ _) _) hb0) hg1 (by omega)) (by simp) _) (by simp) _⟩

set_option maxHeartbeats 4000000 in
theorem FnFormatValid_walk (a0 : Option Addr) (len0 cap0 : Nat) (z0 : List Int) (w : World) (w0 : IsRow .u8 w a0 len0 cap0 z0) : Calls Try.prog 8 #[.slice a0 len0 cap0] w fun e w' => e = .returned (.bool true) ∧ Below w.heap.size w w' := by
  by_cases hlen : (1048576 : Int) < (len0 : Int)
  · go_enter Try.func8, Try.ntmps8
    go_wp2
    go_ret
    exact ⟨rfl, (by repeat (first | exact Below.refl _ _ | refine balloc ?_ _ | refine bdrew ?_ | refine bdrewN ?_ _ | refine bset ?_ (by first | (simp; done) | (simp; omega)) _ | (refine bseq ?_ (by assumption)) | (refine bgrow ?_ (by assumption) (by omega))))⟩
  · have R := Lib.hid w0
    clear w0
    go_enter Try.func8, Try.ntmps8
    go_wp2_with fail
    refine (DrawFormatValid_any _ _ _ _ _ R.out).mono ?_
    rintro e w1 ⟨x, y, hx, hy, rfl, hb1⟩
    by_cases h : (1 ≤ x ∧ x ≤ 12) ∧ 0 ≤ y ∧ y ≤ 16
    · obtain ⟨⟨h1, h2⟩, h3, h4⟩ := h
      go_wp2_with fail
      refine (FormatValid_yes _ _ _ h1 h2 h3 h4).mono ?_
      rintro e w' ⟨rfl, rfl⟩
      go_wp2_with fail
      refine (sFormatValid_yes _ _ _ h1 h2 h3 h4).mono ?_
      rintro e w' ⟨rfl, rfl⟩
      go_wp2_with fail
      refine (FormatValid_no _ _ _ (by omega)).mono ?_
      rintro e w' ⟨rfl, rfl⟩
      go_wp2_with fail
      refine (FormatValid_no _ _ _ (by omega)).mono ?_
      rintro e w' ⟨rfl, rfl⟩
      go_wp2_with fail
      refine (alive_any' _).mono ?_
      rintro e w' ⟨rfl, rfl⟩
      go_wp2
      go_ret
      exact ⟨rfl, (by repeat (first | exact Below.refl _ _ | refine balloc ?_ _ | refine bdrew ?_ | refine bdrewN ?_ _ | refine bset ?_ (by first | (simp; done) | (simp; omega)) _ | (refine bseq ?_ (by assumption)) | (refine bgrow ?_ (by assumption) (by omega))))⟩
    · have H : x < 1 ∨ 12 < x ∨ y < 0 ∨ 16 < y := by omega
      have H' := Lib.hid H
      clear h H
      go_wp2_with fail
      refine (FormatValid_no _ _ _ H'.out).mono ?_
      rintro e w' ⟨rfl, rfl⟩
      go_wp2_with fail
      refine (sFormatValid_no _ _ _ H'.out).mono ?_
      rintro e w' ⟨rfl, rfl⟩
      go_wp2_with fail
      refine (FormatValid_no _ _ _ (by omega)).mono ?_
      rintro e w' ⟨rfl, rfl⟩
      go_wp2_with fail
      refine (FormatValid_no _ _ _ (by omega)).mono ?_
      rintro e w' ⟨rfl, rfl⟩
      go_wp2_with fail
      refine (alive_any' _).mono ?_
      rintro e w' ⟨rfl, rfl⟩
      go_wp2
      go_ret
      exact ⟨rfl, (by repeat (first | exact Below.refl _ _ | refine balloc ?_ _ | refine bdrew ?_ | refine bdrewN ?_ _ | refine bset ?_ (by first | (simp; done) | (simp; omega)) _ | (refine bseq ?_ (by assumption)) | (refine bgrow ?_ (by assumption) (by omega))))⟩

end Go.Proofs.Ytffgekboieimhaa.K

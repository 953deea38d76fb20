/- The walk of the exact law on texts of long numbers. -/
import Derived.Test.YtbnmkbkjoofekaaDoorLT4
import Derived.Test.YtbnmkbkjoofekaaDoorLU
namespace Go.Proofs.YtbnmkbkjoofekaaDoor.K
open Go.RowKit

set_option maxHeartbeats 1000000 in
theorem FnExactLongText_walk (a0 : Option Addr) (len0 cap0 : Nat) (z0 : List Int) (w : World) (w0 : IsRow .i64 w a0 len0 cap0 z0) (ht : Tb w) : Calls Tryd.prog 3 #[.slice a0 len0 cap0] w fun e w' => e = .returned (.bool true) ∧ Below w.heap.size w w' := by
  have HT : Hid (∀ W, Below w.heap.size w W → Tb W) := Lib.hid fun W hb => ht.below hb
  clear ht
  obtain ⟨xs, rfl, hA⟩ := Arg.of w0
  have A := Lib.hid hA
  clear w0 hA
  by_cases hl0 : (1048576 : Int) < (xs.length : Int)
  · go_enter Tryd.func3, Tryd.ntmps3
    go_wp2
    go_ret
    exact ⟨by first | rfl | (simp; done) | (simp; omega), Below.refl _ _⟩
  · have hn0 : xs.length ≤ 1048576 := by omega
    have HB := Below.refl w.heap.size w
    go_enter Tryd.func3, Tryd.ntmps3
    go_wp2_with fail
    refine (toIntS_any _ _ xs _ (A.out.keep HB) hn0).mono ?_
    rintro e w1 ⟨g_r1, rfl, r1, hb1⟩
    have LO_r1 := Lib.hid (HB).size
    replace HB := bseq HB hb1
    clear hb1
    go_wp2_with fail
    refine (sLongText_in _ _ _ _ _ r1).mono ?_
    rintro e w2 ⟨rfl, hb2⟩
    replace r1 := r1.keep hb2
    replace HB := bseq HB hb2
    clear hb2
    go_wp2_with fail
    refine (toIntS_any _ _ xs _ (A.out.keep HB) hn0).mono ?_
    rintro e w3 ⟨g_x0, rfl, x0, hb3⟩
    have D_r1_x0 := Lib.hid (Row.apart r1 x0 r1.top)
    have LO_x0 := Lib.hid (HB).size
    replace r1 := r1.keep hb3
    replace HB := bseq HB hb3
    clear hb3
    go_wp2_with fail
    refine (LongText_in _ _ _ _ _ x0 (HT.out _ HB)).mono ?_
    rintro e w4 ⟨rfl, hb4⟩
    replace r1 := r1.keep hb4
    replace x0 := x0.keep hb4
    replace HB := bseq HB hb4
    clear hb4
    go_wp2_with fail
    refine (toIntS_any _ _ xs _ (A.out.keep HB) hn0).mono ?_
    rintro e w5 ⟨g_r2, rfl, r2, hb5⟩
    have D_r1_r2 := Lib.hid (Row.apart r1 r2 r1.top)
    have D_x0_r2 := Lib.hid (Row.apart x0 r2 x0.top)
    have LO_r2 := Lib.hid (HB).size
    replace r1 := r1.keep hb5
    replace x0 := x0.keep hb5
    replace HB := bseq HB hb5
    clear hb5
    go_wp2_with fail
    refine (eqIntS_same _ _ _ _ _ _ _ _ x0 r2).mono ?_
    rintro e w6 ⟨rfl, hb6⟩
    replace r1 := r1.keep hb6
    replace x0 := x0.keep hb6
    replace r2 := r2.keep hb6
    replace HB := bseq HB hb6
    clear hb6
    go_wp2
    go_ret
    exact ⟨rfl, HB⟩

end Go.Proofs.YtbnmkbkjoofekaaDoor.K

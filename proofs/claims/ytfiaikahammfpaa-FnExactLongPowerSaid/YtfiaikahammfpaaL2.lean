/- The walks of the exact laws on long numbers: mul, power. -/
import Derived.Test.YtfiaikahammfpaaLU
import Derived.Test.YtfiaikahammfpaaLM2
namespace Go.Proofs.Ytfiaikahammfpaa.K
open Go.RowKit

theorem mulL_len (xs ys : List Int) : (mulL xs ys).1.length ≤ 60 := by
  unfold mulL
  split
  · rename_i h; rw [ofN_len]; exact (digs_len _ 60).2 (by simp at h; exact h.2)
  · simp
set_option maxHeartbeats 1000000 in
theorem FnExactLongMul_walk (a0 : Option Addr) (len0 cap0 : Nat) (z0 : List Int) (a1 : Option Addr) (len1 cap1 : Nat) (z1 : List Int) (w : World) (w0 : IsRow .i64 w a0 len0 cap0 z0) (w1 : IsRow .i64 w a1 len1 cap1 z1) : Calls Try.prog 3 #[.slice a0 len0 cap0, .slice a1 len1 cap1] w fun e w' => e = .returned (.bool true) ∧ Below w.heap.size w w' := by
  obtain ⟨xs, rfl, hA⟩ := Arg.of w0
  have A := Lib.hid hA
  clear w0 hA
  obtain ⟨ys, rfl, hB⟩ := Arg.of w1
  have B := Lib.hid hB
  clear w1 hB
  by_cases hl0 : (1048576 : Int) < (xs.length : Int)
  · go_enter Try.func3, Try.ntmps3
    go_wp2
    go_ret
    exact ⟨by first | rfl | (simp; done) | (simp; omega), Below.refl _ _⟩
  · have hn0 : xs.length ≤ 1048576 := by omega
    by_cases hl1 : (1048576 : Int) < (ys.length : Int)
    · go_enter Try.func3, Try.ntmps3
      go_wp2
      go_ret
      exact ⟨by first | rfl | (simp; done) | (simp; omega), Below.refl _ _⟩
    · have hn1 : ys.length ≤ 1048576 := by omega
      have HB := Below.refl w.heap.size w
      obtain ⟨⟨zs, ok⟩, hz⟩ : ∃ r, mulL xs ys = r := ⟨_, rfl⟩
      have hzl : zs.length ≤ 60 := by have := mulL_len xs ys; rw [hz] at this; exact this
      have HZ := Lib.hid hz
      clear hz
      go_enter Try.func3, Try.ntmps3
      go_wp2_with fail
      refine (toIntS_any _ _ xs _ (A.out.keep HB) hn0).mono ?_
      rintro e w1 ⟨g_r1, rfl, r1, hb1⟩
      have LO_r1 := Lib.hid (HB).size
      replace HB := bseq HB hb1
      clear hb1
      go_wp2_with fail
      refine (toIntS_any _ _ ys _ (B.out.keep HB) hn1).mono ?_
      rintro e w2 ⟨g_r2, rfl, r2, hb2⟩
      have D_r1_r2 := Lib.hid (Row.apart r1 r2 r1.top)
      have LO_r2 := Lib.hid (HB).size
      replace r1 := r1.keep hb2
      replace HB := bseq HB hb2
      clear hb2
      go_wp2_with fail
      refine (sLongMul_any _ _ _ _ _ _ _ _ _ _ HZ _ r1 r2).mono ?_
      rintro e w3 ⟨ao0, c0, rfl, r0, hb3⟩
      have D_r1_r0 := Lib.hid (Row.apart r1 r0 r1.top)
      have D_r2_r0 := Lib.hid (Row.apart r2 r0 r2.top)
      have LO_r0 := Lib.hid (HB).size
      replace r1 := r1.keep hb3
      replace r2 := r2.keep hb3
      replace HB := bseq HB hb3
      clear hb3
      clear D_r1_r2 D_r1_r0 D_r2_r0 r1 r2 LO_r1 LO_r2
      go_wp2_with fail
      refine (toIntS_any _ _ xs _ (A.out.keep HB) hn0).mono ?_
      rintro e w4 ⟨g_x0, rfl, x0, hb4⟩
      have D_r0_x0 := Lib.hid (Row.apart r0 x0 r0.top)
      have LO_x0 := Lib.hid (HB).size
      replace r0 := r0.keep hb4
      replace HB := bseq HB hb4
      clear hb4
      go_wp2_with fail
      refine (toIntS_any _ _ ys _ (B.out.keep HB) hn1).mono ?_
      rintro e w5 ⟨g_x1, rfl, x1, hb5⟩
      have D_r0_x1 := Lib.hid (Row.apart r0 x1 r0.top)
      have D_x0_x1 := Lib.hid (Row.apart x0 x1 x0.top)
      have LO_x1 := Lib.hid (HB).size
      replace r0 := r0.keep hb5
      replace x0 := x0.keep hb5
      replace HB := bseq HB hb5
      clear hb5
      go_wp2_with fail
      refine (LongMul_any _ _ _ _ _ _ _ _ _ _ HZ _ x0 x1).mono ?_
      rintro e w6 ⟨ao1, c1, rfl, g0, hb6⟩
      have D_r0_g0 := Lib.hid (Row.apart r0 g0 r0.top)
      have D_x0_g0 := Lib.hid (Row.apart x0 g0 x0.top)
      have D_x1_g0 := Lib.hid (Row.apart x1 g0 x1.top)
      have LO_g0 := Lib.hid (HB).size
      replace r0 := r0.keep hb6
      replace x0 := x0.keep hb6
      replace x1 := x1.keep hb6
      replace HB := bseq HB hb6
      clear hb6
      go_wp2_with fail
      refine (eqIntS_same _ _ _ _ _ _ _ _ g0 r0).mono ?_
      rintro e w7 ⟨rfl, hb7⟩
      replace r0 := r0.keep hb7
      replace x0 := x0.keep hb7
      replace x1 := x1.keep hb7
      replace g0 := g0.keep hb7
      replace HB := bseq HB hb7
      clear hb7
      go_wp2_with fail
      refine (toIntS_any _ _ xs _ (A.out.keep HB) hn0).mono ?_
      rintro e w8 ⟨g_r1, rfl, r1, hb8⟩
      have D_r0_r1 := Lib.hid (Row.apart r0 r1 r0.top)
      have D_x0_r1 := Lib.hid (Row.apart x0 r1 x0.top)
      have D_x1_r1 := Lib.hid (Row.apart x1 r1 x1.top)
      have D_g0_r1 := Lib.hid (Row.apart g0 r1 g0.top)
      have LO_r1 := Lib.hid (HB).size
      replace r0 := r0.keep hb8
      replace x0 := x0.keep hb8
      replace x1 := x1.keep hb8
      replace g0 := g0.keep hb8
      replace HB := bseq HB hb8
      clear hb8
      go_wp2_with fail
      refine (eqIntS_same _ _ _ _ _ _ _ _ x0 r1).mono ?_
      rintro e w9 ⟨rfl, hb9⟩
      replace r0 := r0.keep hb9
      replace x0 := x0.keep hb9
      replace x1 := x1.keep hb9
      replace g0 := g0.keep hb9
      replace r1 := r1.keep hb9
      replace HB := bseq HB hb9
      clear hb9
      clear D_r0_r1 D_x0_r1 D_x1_r1 D_g0_r1 r1 LO_r1
      go_wp2_with fail
      refine (toIntS_any _ _ ys _ (B.out.keep HB) hn1).mono ?_
      rintro e w10 ⟨g_r1, rfl, r1, hb10⟩
      have D_r0_r1 := Lib.hid (Row.apart r0 r1 r0.top)
      have D_x0_r1 := Lib.hid (Row.apart x0 r1 x0.top)
      have D_x1_r1 := Lib.hid (Row.apart x1 r1 x1.top)
      have D_g0_r1 := Lib.hid (Row.apart g0 r1 g0.top)
      have LO_r1 := Lib.hid (HB).size
      replace r0 := r0.keep hb10
      replace x0 := x0.keep hb10
      replace x1 := x1.keep hb10
      replace g0 := g0.keep hb10
      replace HB := bseq HB hb10
      clear hb10
      go_wp2_with fail
      refine (eqIntS_same _ _ _ _ _ _ _ _ x1 r1).mono ?_
      rintro e w11 ⟨rfl, hb11⟩
      replace r0 := r0.keep hb11
      replace x0 := x0.keep hb11
      replace x1 := x1.keep hb11
      replace g0 := g0.keep hb11
      replace r1 := r1.keep hb11
      replace HB := bseq HB hb11
      clear hb11
      clear D_r0_r1 D_x0_r1 D_x1_r1 D_g0_r1 r1 LO_r1
      go_wp2_with fail
      refine (markIntS_any _ _ _ _ _ _ x0 hn0 (by omega) (by omega)).mono ?_
      rintro e w12 ⟨rfl, m0, hl_m0, hm_m0, r_new, ht⟩
      replace r0 := r0.touch ht D_r0_x0.out
      replace x1 := x1.touch ht (fun k h1 h2 => D_x0_x1.out k h2 h1)
      replace g0 := g0.touch ht (fun k h1 h2 => D_x0_g0.out k h2 h1)
      replace HB := btouch HB ht (fun k h => Nat.le_trans LO_x0.out (x0.bot k h))
      have HL_m0 := Lib.hid hl_m0
      have HM_m0 := Lib.hid hm_m0
      clear x0 ht hl_m0 hm_m0
      have x0 := r_new
      clear r_new
      go_wp2_with fail
      refine (markIntS_any _ _ _ _ _ _ x1 hn1 (by omega) (by omega)).mono ?_
      rintro e w13 ⟨rfl, m1, hl_m1, hm_m1, r_new, ht⟩
      replace r0 := r0.touch ht D_r0_x1.out
      replace x0 := x0.touch ht D_x0_x1.out
      replace g0 := g0.touch ht (fun k h1 h2 => D_x1_g0.out k h2 h1)
      replace HB := btouch HB ht (fun k h => Nat.le_trans LO_x1.out (x1.bot k h))
      have HL_m1 := Lib.hid hl_m1
      have HM_m1 := Lib.hid hm_m1
      clear x1 ht hl_m1 hm_m1
      have x1 := r_new
      clear r_new
      clear D_r0_x0 D_r0_x1 D_x0_x1 D_x0_g0 D_x1_g0 x0 x1 LO_x0 LO_x1
      go_wp2_with fail
      refine (eqIntS_same _ _ _ _ _ _ _ _ g0 r0).mono ?_
      rintro e w14 ⟨rfl, hb14⟩
      replace r0 := r0.keep hb14
      replace g0 := g0.keep hb14
      replace HB := bseq HB hb14
      clear hb14
      go_wp2_with fail
      refine (markIntS_any _ _ _ _ _ _ g0 (by omega) (by omega) (by omega)).mono ?_
      rintro e w15 ⟨rfl, m2, hl_m2, hm_m2, r_new, ht⟩
      replace r0 := r0.touch ht D_r0_g0.out
      replace HB := btouch HB ht (fun k h => Nat.le_trans LO_g0.out (g0.bot k h))
      have HL_m2 := Lib.hid hl_m2
      have HM_m2 := Lib.hid hm_m2
      clear g0 ht hl_m2 hm_m2
      have g0 := r_new
      clear r_new
      go_wp2_with fail
      refine (heldIntS_len _ _ _ _ _ HL_m2 _ _ g0 (by omega) (by omega) (by omega) HM_m2.out).mono ?_
      rintro e w' ⟨rfl, rfl⟩
      go_wp2_with fail
      refine (toIntS_any _ _ xs _ (A.out.keep HB) hn0).mono ?_
      rintro e w16 ⟨g_r1, rfl, r1, hb16⟩
      have D_r0_r1 := Lib.hid (Row.apart r0 r1 r0.top)
      have D_g0_r1 := Lib.hid (Row.apart g0 r1 g0.top)
      have LO_r1 := Lib.hid (HB).size
      replace r0 := r0.keep hb16
      replace g0 := g0.keep hb16
      replace HB := bseq HB hb16
      clear hb16
      go_wp2_with fail
      refine (toIntS_any _ _ ys _ (B.out.keep HB) hn1).mono ?_
      rintro e w17 ⟨g_r2, rfl, r2, hb17⟩
      have D_r0_r2 := Lib.hid (Row.apart r0 r2 r0.top)
      have D_g0_r2 := Lib.hid (Row.apart g0 r2 g0.top)
      have D_r1_r2 := Lib.hid (Row.apart r1 r2 r1.top)
      have LO_r2 := Lib.hid (HB).size
      replace r0 := r0.keep hb17
      replace g0 := g0.keep hb17
      replace r1 := r1.keep hb17
      replace HB := bseq HB hb17
      clear hb17
      go_wp2_with fail
      refine (LongMul_any _ _ _ _ _ _ _ _ _ _ HZ _ r1 r2).mono ?_
      rintro e w18 ⟨ao2, c2, rfl, h0, hb18⟩
      have D_r0_h0 := Lib.hid (Row.apart r0 h0 r0.top)
      have D_g0_h0 := Lib.hid (Row.apart g0 h0 g0.top)
      have D_r1_h0 := Lib.hid (Row.apart r1 h0 r1.top)
      have D_r2_h0 := Lib.hid (Row.apart r2 h0 r2.top)
      have LO_h0 := Lib.hid (HB).size
      replace r0 := r0.keep hb18
      replace g0 := g0.keep hb18
      replace r1 := r1.keep hb18
      replace r2 := r2.keep hb18
      replace HB := bseq HB hb18
      clear hb18
      go_wp2_with fail
      refine (eqIntS_same _ _ _ _ _ _ _ _ h0 r0).mono ?_
      rintro e w19 ⟨rfl, hb19⟩
      replace r0 := r0.keep hb19
      replace g0 := g0.keep hb19
      replace r1 := r1.keep hb19
      replace r2 := r2.keep hb19
      replace h0 := h0.keep hb19
      replace HB := bseq HB hb19
      clear hb19
      go_wp2_with fail
      refine (heldIntS_len _ _ _ _ _ HL_m2 _ _ g0 (by omega) (by omega) (by omega) HM_m2.out).mono ?_
      rintro e w' ⟨rfl, rfl⟩
      go_wp2
      go_ret
      exact ⟨rfl, HB⟩
set_option maxHeartbeats 1000000 in
theorem FnExactLongPower_walk (a0 : Option Addr) (len0 cap0 : Nat) (z0 : List Int) (a1 : Int) (w : World) (w0 : IsRow .i64 w a0 len0 cap0 z0) (_w1 : (Lit.int .i64 a1).wf = true) : Calls Try.prog 5 #[.slice a0 len0 cap0, .int .i64 a1] w fun e w' => e = .returned (.bool true) ∧ Below w.heap.size w w' := by
  obtain ⟨xs, rfl, hA⟩ := Arg.of w0
  have A := Lib.hid hA
  clear w0 hA
  by_cases hl0 : (1048576 : Int) < (xs.length : Int)
  · go_enter Try.func5, Try.ntmps5
    go_wp2
    go_ret
    exact ⟨by first | rfl | (simp; done) | (simp; omega), Below.refl _ _⟩
  · have hn0 : xs.length ≤ 1048576 := by omega
    have HB := Below.refl w.heap.size w
    obtain ⟨⟨zs, ok⟩, hz⟩ : ∃ r, powL xs a1 = r := ⟨_, rfl⟩
    have hzl : zs.length ≤ 60 := by have := powL_len xs a1; rw [hz] at this; exact this
    have HZ := Lib.hid hz
    clear hz
    go_enter Try.func5, Try.ntmps5
    go_wp2_with fail
    refine (toIntS_any _ _ xs _ (A.out.keep HB) hn0).mono ?_
    rintro e w1 ⟨g_r1, rfl, r1, hb1⟩
    have LO_r1 := Lib.hid (HB).size
    replace HB := bseq HB hb1
    clear hb1
    go_wp2_with fail
    refine (sLongPower_any _ _ _ _ _ _ _ HZ _ r1).mono ?_
    rintro e w2 ⟨ao0, c0, rfl, r0, hb2⟩
    have D_r1_r0 := Lib.hid (Row.apart r1 r0 r1.top)
    have LO_r0 := Lib.hid (HB).size
    replace r1 := r1.keep hb2
    replace HB := bseq HB hb2
    clear hb2
    clear D_r1_r0 r1 LO_r1
    go_wp2_with fail
    refine (toIntS_any _ _ xs _ (A.out.keep HB) hn0).mono ?_
    rintro e w3 ⟨g_x0, rfl, x0, hb3⟩
    have D_r0_x0 := Lib.hid (Row.apart r0 x0 r0.top)
    have LO_x0 := Lib.hid (HB).size
    replace r0 := r0.keep hb3
    replace HB := bseq HB hb3
    clear hb3
    go_wp2_with fail
    refine (LongPower_any _ _ _ _ _ _ _ HZ _ x0).mono ?_
    rintro e w4 ⟨ao1, c1, rfl, g0, hb4⟩
    have D_r0_g0 := Lib.hid (Row.apart r0 g0 r0.top)
    have D_x0_g0 := Lib.hid (Row.apart x0 g0 x0.top)
    have LO_g0 := Lib.hid (HB).size
    replace r0 := r0.keep hb4
    replace x0 := x0.keep hb4
    replace HB := bseq HB hb4
    clear hb4
    go_wp2_with fail
    refine (eqIntS_same _ _ _ _ _ _ _ _ g0 r0).mono ?_
    rintro e w5 ⟨rfl, hb5⟩
    replace r0 := r0.keep hb5
    replace x0 := x0.keep hb5
    replace g0 := g0.keep hb5
    replace HB := bseq HB hb5
    clear hb5
    go_wp2_with fail
    refine (toIntS_any _ _ xs _ (A.out.keep HB) hn0).mono ?_
    rintro e w6 ⟨g_r1, rfl, r1, hb6⟩
    have D_r0_r1 := Lib.hid (Row.apart r0 r1 r0.top)
    have D_x0_r1 := Lib.hid (Row.apart x0 r1 x0.top)
    have D_g0_r1 := Lib.hid (Row.apart g0 r1 g0.top)
    have LO_r1 := Lib.hid (HB).size
    replace r0 := r0.keep hb6
    replace x0 := x0.keep hb6
    replace g0 := g0.keep hb6
    replace HB := bseq HB hb6
    clear hb6
    go_wp2_with fail
    refine (eqIntS_same _ _ _ _ _ _ _ _ x0 r1).mono ?_
    rintro e w7 ⟨rfl, hb7⟩
    replace r0 := r0.keep hb7
    replace x0 := x0.keep hb7
    replace g0 := g0.keep hb7
    replace r1 := r1.keep hb7
    replace HB := bseq HB hb7
    clear hb7
    clear D_r0_r1 D_x0_r1 D_g0_r1 r1 LO_r1
    go_wp2_with fail
    refine (markIntS_any _ _ _ _ _ _ x0 hn0 (by omega) (by omega)).mono ?_
    rintro e w8 ⟨rfl, m0, hl_m0, hm_m0, r_new, ht⟩
    replace r0 := r0.touch ht D_r0_x0.out
    replace g0 := g0.touch ht (fun k h1 h2 => D_x0_g0.out k h2 h1)
    replace HB := btouch HB ht (fun k h => Nat.le_trans LO_x0.out (x0.bot k h))
    have HL_m0 := Lib.hid hl_m0
    have HM_m0 := Lib.hid hm_m0
    clear x0 ht hl_m0 hm_m0
    have x0 := r_new
    clear r_new
    clear D_r0_x0 D_x0_g0 x0 LO_x0
    go_wp2_with fail
    refine (eqIntS_same _ _ _ _ _ _ _ _ g0 r0).mono ?_
    rintro e w9 ⟨rfl, hb9⟩
    replace r0 := r0.keep hb9
    replace g0 := g0.keep hb9
    replace HB := bseq HB hb9
    clear hb9
    go_wp2_with fail
    refine (markIntS_any _ _ _ _ _ _ g0 (by omega) (by omega) (by omega)).mono ?_
    rintro e w10 ⟨rfl, m2, hl_m2, hm_m2, r_new, ht⟩
    replace r0 := r0.touch ht D_r0_g0.out
    replace HB := btouch HB ht (fun k h => Nat.le_trans LO_g0.out (g0.bot k h))
    have HL_m2 := Lib.hid hl_m2
    have HM_m2 := Lib.hid hm_m2
    clear g0 ht hl_m2 hm_m2
    have g0 := r_new
    clear r_new
    go_wp2_with fail
    refine (heldIntS_len _ _ _ _ _ HL_m2 _ _ g0 (by omega) (by omega) (by omega) HM_m2.out).mono ?_
    rintro e w' ⟨rfl, rfl⟩
    go_wp2_with fail
    refine (toIntS_any _ _ xs _ (A.out.keep HB) hn0).mono ?_
    rintro e w11 ⟨g_r1, rfl, r1, hb11⟩
    have D_r0_r1 := Lib.hid (Row.apart r0 r1 r0.top)
    have D_g0_r1 := Lib.hid (Row.apart g0 r1 g0.top)
    have LO_r1 := Lib.hid (HB).size
    replace r0 := r0.keep hb11
    replace g0 := g0.keep hb11
    replace HB := bseq HB hb11
    clear hb11
    go_wp2_with fail
    refine (LongPower_any _ _ _ _ _ _ _ HZ _ r1).mono ?_
    rintro e w12 ⟨ao2, c2, rfl, h0, hb12⟩
    have D_r0_h0 := Lib.hid (Row.apart r0 h0 r0.top)
    have D_g0_h0 := Lib.hid (Row.apart g0 h0 g0.top)
    have D_r1_h0 := Lib.hid (Row.apart r1 h0 r1.top)
    have LO_h0 := Lib.hid (HB).size
    replace r0 := r0.keep hb12
    replace g0 := g0.keep hb12
    replace r1 := r1.keep hb12
    replace HB := bseq HB hb12
    clear hb12
    go_wp2_with fail
    refine (eqIntS_same _ _ _ _ _ _ _ _ h0 r0).mono ?_
    rintro e w13 ⟨rfl, hb13⟩
    replace r0 := r0.keep hb13
    replace g0 := g0.keep hb13
    replace r1 := r1.keep hb13
    replace h0 := h0.keep hb13
    replace HB := bseq HB hb13
    clear hb13
    go_wp2_with fail
    refine (heldIntS_len _ _ _ _ _ HL_m2 _ _ g0 (by omega) (by omega) (by omega) HM_m2.out).mono ?_
    rintro e w' ⟨rfl, rfl⟩
    go_wp2
    go_ret
    exact ⟨rfl, HB⟩
end Go.Proofs.Ytfiaikahammfpaa.K

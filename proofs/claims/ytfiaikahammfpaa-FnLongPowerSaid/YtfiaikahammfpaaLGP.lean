/- The walk of the law on drawn powers. -/
import Derived.Test.YtfiaikahammfpaaLP
import Derived.Test.YtfiaikahammfpaaLG
namespace Go.Proofs.Ytfiaikahammfpaa.K
open Go.RowKit

set_option maxHeartbeats 4000000 in
theorem FnLongPower_walk (a0 : Option Addr) (len0 cap0 : Nat) (z0 : List Int) (w : World) (w0 : IsRow .u8 w a0 len0 cap0 z0) : Calls Try.prog 6 #[.slice a0 len0 cap0] w fun e w' => e = .returned (.bool true) ∧ Below w.heap.size w w' := by
  by_cases hlen0 : (1048576 : Int) < (len0 : Int)
  · go_enter Try.func6, Try.ntmps6
    go_wp2
    go_ret
    exact ⟨by first | rfl | (simp; done) | (simp; omega), Below.refl _ _⟩
  · have I0 := Lib.hid w0
    clear w0
    have HB := Below.refl w.heap.size w
    go_enter Try.func6, Try.ntmps6
    go_wp2_with fail
    refine (DrawLongPower_any _ _ _ _ _ I0.out).mono ?_
    rintro e w1 ⟨g1, c1, xs, m, rfl, r1, hl1, hb1⟩
    replace HB := bseq HB hb1
    clear hb1
    rcases pow_cases xs m with h | ⟨zs, h, hv, hzl, hm0, hm1, h0, hs⟩
    · have HZ := Lib.hid h
      clear h
      go_wp2_with fail
      refine (LongPower_any _ _ _ _ _ _ _ HZ _ r1).mono ?_
      rintro e w2 ⟨a3, c3, rfl, r3, hb2⟩
      replace r1 := r1.keep hb2
      replace HB := bseq HB hb2
      clear hb2
      go_wp2_with fail
      refine (sLongPower_any _ _ _ _ _ _ _ HZ _ r1).mono ?_
      rintro e w3 ⟨a4, c4, rfl, r4, hb3⟩
      replace r1 := r1.keep hb3
      replace r3 := r3.keep hb3
      replace HB := bseq HB hb3
      clear hb3
      go_wp2_with fail
      refine (sameInts_same _ _ _ _ _ _ _ _ r3 r4).mono ?_
      rintro e w4 ⟨rfl, hb4⟩
      replace r1 := r1.keep hb4
      replace r3 := r3.keep hb4
      replace r4 := r4.keep hb4
      replace HB := bseq HB hb4
      clear hb4
      go_wp2_with fail
      refine (alive_any _).mono ?_
      rintro e w' ⟨rfl, rfl⟩
      go_wp2
      go_ret
      exact ⟨by first | rfl | (simp; done) | (simp; omega), HB⟩
    · have HZ := Lib.hid h
      have HV := Lib.hid hv
      have H0 := Lib.hid h0
      obtain ⟨⟨ps, made⟩, hp⟩ : ∃ r, mulL zs xs = r := ⟨_, rfl⟩
      have HP := Lib.hid hp
      rw [hp] at hs
      have HS := Lib.hid hs
      clear h hv h0 hp hs
      by_cases hm : m = 1000
      · subst hm
        obtain ⟨⟨ns, next⟩, hn⟩ : ∃ r, powL xs 1001 = r := ⟨_, rfl⟩
        have HN := Lib.hid hn
        clear hn
        go_wp2_with fail
        refine (LongPower_any _ _ _ _ _ _ _ HZ _ r1).mono ?_
        rintro e w2 ⟨a3, c3, rfl, r3, hb2⟩
        replace r1 := r1.keep hb2
        replace HB := bseq HB hb2
        clear hb2
        go_wp2_with fail
        refine (sLongPower_any _ _ _ _ _ _ _ HZ _ r1).mono ?_
        rintro e w3 ⟨a4, c4, rfl, r4, hb3⟩
        replace r1 := r1.keep hb3
        replace r3 := r3.keep hb3
        replace HB := bseq HB hb3
        clear hb3
        go_wp2_with fail
        refine (sameInts_same _ _ _ _ _ _ _ _ r3 r4).mono ?_
        rintro e w4 ⟨rfl, hb4⟩
        replace r1 := r1.keep hb4
        replace r3 := r3.keep hb4
        replace r4 := r4.keep hb4
        replace HB := bseq HB hb4
        clear hb4
        clear r4
        go_wp2_with fail
        refine (LongPower_any _ _ _ _ _ _ _ HN _ r1).mono ?_
        rintro e w5 ⟨a5, c5, rfl, r5, hb5⟩
        replace r1 := r1.keep hb5
        replace r3 := r3.keep hb5
        replace HB := bseq HB hb5
        clear hb5
        go_wp2_with fail
        refine (LongMul_any _ _ _ _ _ _ _ _ _ _ HP _ r3 r1).mono ?_
        rintro e w6 ⟨a6, c6, rfl, r6, hb6⟩
        replace r1 := r1.keep hb6
        replace r3 := r3.keep hb6
        replace r5 := r5.keep hb6
        replace HB := bseq HB hb6
        clear hb6
        go_wp2_with fail
        refine (LongPower_any _ _ _ _ _ _ _ H0 _ r1).mono ?_
        rintro e w7 ⟨a7, c7, rfl, r7, hb7⟩
        replace r1 := r1.keep hb7
        replace r3 := r3.keep hb7
        replace r5 := r5.keep hb7
        replace r6 := r6.keep hb7
        replace HB := bseq HB hb7
        clear hb7
        go_wp2_with fail
        refine (LongValid_is true _ _ _ _ _ r3 HV.out).mono ?_
        rintro e w' ⟨rfl, rfl⟩
        go_wp2_with fail
        refine (sameInts_same _ _ _ _ _ _ _ _ (r7.alloc _) (row_one _)).mono ?_
        rintro e w8 ⟨rfl, hb8⟩
        replace r1 := (r1.alloc _).keep hb8
        replace r3 := (r3.alloc _).keep hb8
        replace r5 := (r5.alloc _).keep hb8
        replace r6 := (r6.alloc _).keep hb8
        replace r7 := (r7.alloc _).keep hb8
        replace HB := bseq (balloc HB _) hb8
        clear hb8
        go_wp2
        go_ret
        exact ⟨by first | rfl | (simp; done) | (simp; omega), HB⟩
      · have HN := Lib.hid (HS.out (by omega))
        have hm2 : m < 1000 := by omega
        go_wp2_with fail
        refine (LongPower_any _ _ _ _ _ _ _ HZ _ r1).mono ?_
        rintro e w2 ⟨a3, c3, rfl, r3, hb2⟩
        replace r1 := r1.keep hb2
        replace HB := bseq HB hb2
        clear hb2
        go_wp2_with fail
        refine (sLongPower_any _ _ _ _ _ _ _ HZ _ r1).mono ?_
        rintro e w3 ⟨a4, c4, rfl, r4, hb3⟩
        replace r1 := r1.keep hb3
        replace r3 := r3.keep hb3
        replace HB := bseq HB hb3
        clear hb3
        go_wp2_with fail
        refine (sameInts_same _ _ _ _ _ _ _ _ r3 r4).mono ?_
        rintro e w4 ⟨rfl, hb4⟩
        replace r1 := r1.keep hb4
        replace r3 := r3.keep hb4
        replace r4 := r4.keep hb4
        replace HB := bseq HB hb4
        clear hb4
        clear r4
        go_wp2_with fail
        refine (LongPower_any _ _ _ _ _ _ _ HN _ r1).mono ?_
        rintro e w5 ⟨a5, c5, rfl, r5, hb5⟩
        replace r1 := r1.keep hb5
        replace r3 := r3.keep hb5
        replace HB := bseq HB hb5
        clear hb5
        go_wp2_with fail
        refine (LongMul_any _ _ _ _ _ _ _ _ _ _ HP _ r3 r1).mono ?_
        rintro e w6 ⟨a6, c6, rfl, r6, hb6⟩
        replace r1 := r1.keep hb6
        replace r3 := r3.keep hb6
        replace r5 := r5.keep hb6
        replace HB := bseq HB hb6
        clear hb6
        go_wp2_with fail
        refine (LongPower_any _ _ _ _ _ _ _ H0 _ r1).mono ?_
        rintro e w7 ⟨a7, c7, rfl, r7, hb7⟩
        replace r1 := r1.keep hb7
        replace r3 := r3.keep hb7
        replace r5 := r5.keep hb7
        replace r6 := r6.keep hb7
        replace HB := bseq HB hb7
        clear hb7
        go_wp2_with fail
        refine (LongValid_is true _ _ _ _ _ r3 HV.out).mono ?_
        rintro e w' ⟨rfl, rfl⟩
        go_wp2_with fail
        refine (sameInts_same _ _ _ _ _ _ _ _ (r7.alloc _) (row_one _)).mono ?_
        rintro e w8 ⟨rfl, hb8⟩
        replace r1 := (r1.alloc _).keep hb8
        replace r3 := (r3.alloc _).keep hb8
        replace r5 := (r5.alloc _).keep hb8
        replace r6 := (r6.alloc _).keep hb8
        replace r7 := (r7.alloc _).keep hb8
        replace HB := bseq (balloc HB _) hb8
        clear hb8
        go_wp2_with fail
        refine (sameInts_same _ _ _ _ _ _ _ _ r5 r6).mono ?_
        rintro e w9 ⟨rfl, hb9⟩
        replace r1 := r1.keep hb9
        replace r3 := r3.keep hb9
        replace r5 := r5.keep hb9
        replace r6 := r6.keep hb9
        replace r7 := r7.keep hb9
        replace HB := bseq HB hb9
        clear hb9
        go_wp2
        go_ret
        exact ⟨by first | rfl | (simp; done) | (simp; omega), HB⟩

end Go.Proofs.Ytfiaikahammfpaa.K

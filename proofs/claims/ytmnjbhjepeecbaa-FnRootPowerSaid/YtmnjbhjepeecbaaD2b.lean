/- The walk of the law on roots of squares. -/
import Derived.Test.YtmnjbhjepeecbaaD2
namespace Go.Proofs.Ytmnjbhjepeecbaa.K
open Go.RowKit

set_option maxHeartbeats 8000000 in
theorem FnRootPower_walk (a0 : Option Addr) (len0 cap0 : Nat) (z0 : List Int) (w : World) (w0 : IsRow .u8 w a0 len0 cap0 z0) : Calls Try.prog 3 #[.slice a0 len0 cap0] w fun e w' => e = .returned (.bool true) ∧ Below w.heap.size w w' := by
  by_cases hlen : (1048576 : Int) < (len0 : Int)
  · go_enter Try.func3, Try.ntmps3
    go_wp2
    go_ret
    exact ⟨rfl, (by repeat (first | exact Below.refl _ _ | refine balloc ?_ _ | refine bdrew ?_ | refine bdrewN ?_ _ | refine bset ?_ (by first | (simp; done) | (simp; omega)) _ | (refine bseq ?_ (by assumption)) | (refine bgrow ?_ (by assumption) (by omega))))⟩
  · have R := Lib.hid w0
    clear w0
    go_enter Try.func3, Try.ntmps3
    go_wp2_with fail
    refine (DrawSqrtFloor_any _ _ _ _ _ R.out).mono ?_
    rintro e w1 ⟨n, n1, n2, rfl, hb1⟩
    by_cases h : 0 ≤ n ∧ n ≤ 1152921504606846976
    · obtain ⟨h1, h2⟩ := h
      obtain ⟨s, s0, s1, s2⟩ := exists_isqrt n h1
      obtain ⟨q0, q1⟩ := sq_bounds h2 s0 s1
      have S1 := Lib.hid s1
      have S2 := Lib.hid s2
      by_cases hz : s = 0
      · subst hz
        go_wp2_with fail
        refine (SqrtFloor_in _ 0 _ h1 h2 s0 S1.out S2.out).mono ?_
        rintro e w' ⟨rfl, rfl⟩
        go_wp2_with fail
        refine (sSqrtFloor_in _ 0 _ h1 h2 s0 S1.out S2.out).mono ?_
        rintro e w' ⟨rfl, rfl⟩
        go_wp2_with (first | (go_at_call 7; refine (alive_any' _).mono ?_; rintro e w' ⟨rfl, rfl⟩))
        go_ret
        exact ⟨by first | rfl | (simp; done) | (simp; omega), (by repeat (first | exact Below.refl _ _ | refine balloc ?_ _ | refine bdrew ?_ | refine bdrewN ?_ _ | refine bset ?_ (by first | (simp; done) | (simp; omega)) _ | (refine bseq ?_ (by assumption)) | (refine bgrow ?_ (by assumption) (by omega))))⟩
      · have hz1 : 1 ≤ s := by omega
        have p1 : s * s < (s + 1) * (s + 1) := by have : (s + 1) * (s + 1) = s * s + 2 * s + 1 := by grind
                                                  omega
        have p2 : (s - 1) * (s - 1) ≤ s * s - 1 := by have : (s - 1) * (s - 1) = s * s - 2 * s + 1 := by grind
                                                      omega
        have p3 : s * s - 1 < (s - 1 + 1) * (s - 1 + 1) := by rw [show s - 1 + 1 = s from by omega]; omega
        have p4 : 1 ≤ s * s := by have := sq_mono (a := 1) (b := s) (by omega) hz1
                                  omega
        have en : near (s * s) s = s := near_lo (by omega)
        obtain ⟨q, eq, qq⟩ : ∃ q, s * s = q ∧ 1 ≤ q := ⟨_, rfl, p4⟩
        have qm : q ≤ 1152921504606846976 := by omega
        have sb : s ≤ 1073741824 := q1
        have I0 : Hid (∀ w, Calls Try.prog 5 #[.int .i64 n] w fun e w' => e = .returned (.int .i64 s) ∧ w = w') := Lib.hid fun w => SqrtFloor_in n s w h1 h2 s0 S1.out S2.out
        have J0 : Hid (∀ w, Calls Try.prog 6 #[.int .i64 n] w fun e w' => e = .returned (.int .i64 s) ∧ w = w') := Lib.hid fun w => sSqrtFloor_in n s w h1 h2 s0 S1.out S2.out
        have I1 : Hid (∀ w, Calls Try.prog 5 #[.int .i64 q] w fun e w' => e = .returned (.int .i64 s) ∧ w = w') := Lib.hid fun w => SqrtFloor_in q s w (by omega) qm s0 (by rw [eq]; exact Int.le_refl _) (by rw [← eq]; exact p1)
        have I2 : Hid (∀ w, Calls Try.prog 5 #[.int .i64 (q - 1)] w fun e w' => e = .returned (.int .i64 (s - 1)) ∧ w = w') := Lib.hid fun w => SqrtFloor_in (q - 1) (s - 1) w (by omega) (by omega) (by omega) (by rw [← eq]; exact p2) (by rw [← eq]; exact p3)
        have I3 : Hid (∀ w, Calls Try.prog 8 #[.int .i64 q] w fun e w' => e = .returned (.int .i64 s) ∧ w = w') := Lib.hid fun w => by
          have := SqrtRound_in q s w (by omega) qm s0 (by rw [eq]; exact Int.le_refl _) (by rw [← eq]; exact p1)
          rwa [show near q s = s by rw [← eq]; exact en] at this
        have hlt : ¬ s < 1 := by omega
        clear p1 p2 p3 p4 en s1 s2 S1 S2 q0 q1 h1 h2 n1 n2 hz
        go_wp2_with fail
        refine (I0.out _).mono ?_
        rintro e w' ⟨rfl, rfl⟩
        go_wp2_with fail
        refine (J0.out _).mono ?_
        rintro e w' ⟨rfl, rfl⟩
        clear I0 J0
        go_wp2_with fail
        refine (I1.out _).mono ?_
        rintro e w' ⟨rfl, rfl⟩
        go_wp2_with fail
        refine (I2.out _).mono ?_
        rintro e w' ⟨rfl, rfl⟩
        go_wp2_with fail
        refine (I3.out _).mono ?_
        rintro e w' ⟨rfl, rfl⟩
        go_wp2
        go_ret
        exact ⟨by first | rfl | (simp; done) | (simp; omega), (by repeat (first | exact Below.refl _ _ | refine balloc ?_ _ | refine bdrew ?_ | refine bdrewN ?_ _ | refine bset ?_ (by first | (simp; done) | (simp; omega)) _ | (refine bseq ?_ (by assumption)) | (refine bgrow ?_ (by assumption) (by omega))))⟩
    · have H : Hid (n < 0 ∨ 1152921504606846976 < n) := Lib.hid (by omega)
      clear h
      go_wp2_with fail
      refine (SqrtFloor_out _ _ H.out).mono ?_
      rintro e w' ⟨rfl, rfl⟩
      go_wp2_with (first | (go_at_call 6; refine (sSqrtFloor_out _ _ H.out).mono ?_; rintro e w' ⟨rfl, rfl⟩) | (go_at_call 7; refine (alive_any' _).mono ?_; rintro e w' ⟨rfl, rfl⟩))
      go_ret
      exact ⟨by first | rfl | (simp; done) | (simp; omega), (by repeat (first | exact Below.refl _ _ | refine balloc ?_ _ | refine bdrew ?_ | refine bdrewN ?_ _ | refine bset ?_ (by first | (simp; done) | (simp; omega)) _ | (refine bseq ?_ (by assumption)) | (refine bgrow ?_ (by assumption) (by omega))))⟩

end Go.Proofs.Ytmnjbhjepeecbaa.K

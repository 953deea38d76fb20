/- The walks of the laws on roots. -/
import Derived.Test.YtggcnpckedcjiaaDraw2
import Derived.Test.YtggcnpckedcjiaaRoot
namespace Go.Proofs.Ytggcnpckedcjiaa.K
open Go.RowKit

theorem alive_any' (w : World) : Calls Try.prog 28 #[] w fun e w' => e = .returned (.bool true) ∧ w = w' := by
  have e5 : Lib.bitLen (Int.toNat 5) = 3 := by decide
  go_enter Try.func28, Try.ntmps28
  go_wp2_with (first | (go_at_call 16; refine (BitLength_in _ _ (by omega) (by omega)).mono ?_; rintro e w' ⟨rfl, rfl⟩))
  go_ret
  exact ⟨rfl, rfl⟩
theorem near_lo {n s : Int} (h : ¬ s < n - s * s) : near n s = s := by unfold near; rw [if_neg h]
theorem near_hi {n s : Int} (h : s < n - s * s) : near n s = s + 1 := by unfold near; rw [if_pos h]
theorem cube_bounds {n s : Int} (n2 : n ≤ 1152921504606846976) (s0 : 0 ≤ s) (s1 : s * s * s ≤ n) : s ≤ 1048576 ∧ 0 ≤ s * s ∧ s * s ≤ 1099511627776 ∧ 0 ≤ s * s * s ∧ 0 ≤ (s + 1) * (s + 1) ∧ (s + 1) * (s + 1) ≤ 1099513724929 ∧ 0 ≤ (s + 1) * (s + 1) * (s + 1) ∧ (s + 1) * (s + 1) * (s + 1) ≤ 1152924803144876033 := by
  have h := cube_lt (n := n) (s := s) (r := 1048577) (by omega) s1 (by omega)
  have q0 : 0 ≤ s * s := Int.mul_nonneg s0 s0
  have q1 : s * s ≤ 1048576 * 1048576 := Int.mul_le_mul (by omega) (by omega) s0 (by omega)
  have q2 : 0 ≤ (s + 1) * (s + 1) := Int.mul_nonneg (by omega) (by omega)
  have q3 : (s + 1) * (s + 1) ≤ 1048577 * 1048577 := Int.mul_le_mul (by omega) (by omega) (by omega) (by omega)
  have q4 : (s + 1) * (s + 1) * (s + 1) ≤ 1099513724929 * 1048577 := Int.mul_le_mul (by omega) (by omega) (by omega) (by omega)
  exact ⟨by omega, q0, by omega, Int.mul_nonneg q0 s0, q2, by omega, Int.mul_nonneg q2 (by omega), by omega⟩

set_option maxHeartbeats 8000000 in
theorem FnCubeFloor_walk (a0 : Option Addr) (len0 cap0 : Nat) (z0 : List Int) (w : World) (w0 : IsRow .u8 w a0 len0 cap0 z0) : Calls Try.prog 10 #[.slice a0 len0 cap0] w fun e w' => e = .returned (.bool true) ∧ Below w.heap.size w w' := by
  by_cases hlen : (1048576 : Int) < (len0 : Int)
  · go_enter Try.func10, Try.ntmps10
    go_wp2
    go_ret
    exact ⟨rfl, (by repeat (first | exact Below.refl _ _ | refine balloc ?_ _ | refine bdrew ?_ | refine bdrewN ?_ _ | refine bset ?_ (by first | (simp; done) | (simp; omega)) _ | (refine bseq ?_ (by assumption)) | (refine bgrow ?_ (by assumption) (by omega))))⟩
  · have R := Lib.hid w0
    clear w0
    go_enter Try.func10, Try.ntmps10
    go_wp2_with fail
    refine (DrawCubeFloor_any _ _ _ _ _ R.out).mono ?_
    rintro e w1 ⟨n, n1, n2, rfl, hb1⟩
    by_cases h : 0 ≤ n ∧ n ≤ 1152921504606846976
    · obtain ⟨h1, h2⟩ := h
      obtain ⟨s, s0, s1, s2⟩ := exists_icbrt n h1
      obtain ⟨q1, q2, q3, q4, q5, q6, q7, q8⟩ := cube_bounds h2 s0 s1
      have S1 := Lib.hid s1
      have S2 := Lib.hid s2
      go_wp2_with fail
      refine (CubeFloor_in _ s _ h1 h2 s0 S1.out S2.out).mono ?_
      rintro e w' ⟨rfl, rfl⟩
      go_wp2_with fail
      refine (sCubeFloor_in _ s _ h1 h2 s0 S1.out S2.out).mono ?_
      rintro e w' ⟨rfl, rfl⟩
      go_wp2_with (first | (go_at_call 28; refine (alive_any' _).mono ?_; rintro e w' ⟨rfl, rfl⟩))
      go_ret
      exact ⟨by first | rfl | (simp; done) | (simp; omega), (by repeat (first | exact Below.refl _ _ | refine balloc ?_ _ | refine bdrew ?_ | refine bdrewN ?_ _ | refine bset ?_ (by first | (simp; done) | (simp; omega)) _ | (refine bseq ?_ (by assumption)) | (refine bgrow ?_ (by assumption) (by omega))))⟩
    · have H : Hid (n < 0 ∨ 1152921504606846976 < n) := Lib.hid (by omega)
      clear h
      go_wp2_with fail
      refine (CubeFloor_out _ _ H.out).mono ?_
      rintro e w' ⟨rfl, rfl⟩
      go_wp2_with fail
      refine (sCubeFloor_out _ _ H.out).mono ?_
      rintro e w' ⟨rfl, rfl⟩
      go_wp2_with (first | (go_at_call 28; refine (alive_any' _).mono ?_; rintro e w' ⟨rfl, rfl⟩))
      go_ret
      exact ⟨by first | rfl | (simp; done) | (simp; omega), (by repeat (first | exact Below.refl _ _ | refine balloc ?_ _ | refine bdrew ?_ | refine bdrewN ?_ _ | refine bset ?_ (by first | (simp; done) | (simp; omega)) _ | (refine bseq ?_ (by assumption)) | (refine bgrow ?_ (by assumption) (by omega))))⟩

set_option maxHeartbeats 8000000 in
theorem FnSqrtRound_walk (a0 : Option Addr) (len0 cap0 : Nat) (z0 : List Int) (w : World) (w0 : IsRow .u8 w a0 len0 cap0 z0) : Calls Try.prog 11 #[.slice a0 len0 cap0] w fun e w' => e = .returned (.bool true) ∧ Below w.heap.size w w' := by
  by_cases hlen : (1048576 : Int) < (len0 : Int)
  · go_enter Try.func11, Try.ntmps11
    go_wp2
    go_ret
    exact ⟨rfl, (by repeat (first | exact Below.refl _ _ | refine balloc ?_ _ | refine bdrew ?_ | refine bdrewN ?_ _ | refine bset ?_ (by first | (simp; done) | (simp; omega)) _ | (refine bseq ?_ (by assumption)) | (refine bgrow ?_ (by assumption) (by omega))))⟩
  · have R := Lib.hid w0
    clear w0
    go_enter Try.func11, Try.ntmps11
    go_wp2_with fail
    refine (DrawSqrtRound_any _ _ _ _ _ R.out).mono ?_
    rintro e w1 ⟨n, n1, n2, rfl, hb1⟩
    by_cases h : 0 ≤ n ∧ n ≤ 1152921504606846976
    · obtain ⟨h1, h2⟩ := h
      obtain ⟨s, s0, s1, s2⟩ := exists_isqrt n h1
      obtain ⟨q0, q1⟩ := sq_bounds h2 s0 s1
      have f1 : (s + 1) * (s + 1) ≤ s * s + 2 * s + 1 := by have : (s + 1) * (s + 1) = s * s + 2 * s + 1 := by grind
                                                            omega
      have f2 : s * s + 2 * s + 1 ≤ (s + 1) * (s + 1) := by have : (s + 1) * (s + 1) = s * s + 2 * s + 1 := by grind
                                                            omega
      have S1 := Lib.hid s1
      have S2 := Lib.hid s2
      by_cases c : s < n - s * s
      · have en := near_hi c
        go_wp2_with fail
        refine (SqrtRound_in _ s _ h1 h2 s0 S1.out S2.out).mono ?_
        rintro e w' ⟨rfl, rfl⟩
        go_wp2_with fail
        refine (sSqrtRound_in _ s _ h1 h2 s0 S1.out S2.out).mono ?_
        rintro e w' ⟨rfl, rfl⟩
        go_wp2_with fail
        refine (SqrtFloor_in _ s _ h1 h2 s0 S1.out S2.out).mono ?_
        rintro e w' ⟨rfl, rfl⟩
        go_wp2_with (first | (go_at_call 28; refine (alive_any' _).mono ?_; rintro e w' ⟨rfl, rfl⟩))
        go_ret
        exact ⟨by first | rfl | (simp; done) | (simp; omega), (by repeat (first | exact Below.refl _ _ | refine balloc ?_ _ | refine bdrew ?_ | refine bdrewN ?_ _ | refine bset ?_ (by first | (simp; done) | (simp; omega)) _ | (refine bseq ?_ (by assumption)) | (refine bgrow ?_ (by assumption) (by omega))))⟩
      · have en := near_lo c
        by_cases hz : s = 0
        · subst hz
          go_wp2_with fail
          refine (SqrtRound_in _ 0 _ h1 h2 s0 S1.out S2.out).mono ?_
          rintro e w' ⟨rfl, rfl⟩
          go_wp2_with fail
          refine (sSqrtRound_in _ 0 _ h1 h2 s0 S1.out S2.out).mono ?_
          rintro e w' ⟨rfl, rfl⟩
          go_wp2_with fail
          refine (SqrtFloor_in _ 0 _ h1 h2 s0 S1.out S2.out).mono ?_
          rintro e w' ⟨rfl, rfl⟩
          go_wp2_with (first | (go_at_call 28; refine (alive_any' _).mono ?_; rintro e w' ⟨rfl, rfl⟩))
          go_ret
          exact ⟨by first | rfl | (simp; done) | (simp; omega), (by repeat (first | exact Below.refl _ _ | refine balloc ?_ _ | refine bdrew ?_ | refine bdrewN ?_ _ | refine bset ?_ (by first | (simp; done) | (simp; omega)) _ | (refine bseq ?_ (by assumption)) | (refine bgrow ?_ (by assumption) (by omega))))⟩
        · have hz1 : 1 ≤ s := by omega
          go_wp2_with fail
          refine (SqrtRound_in _ s _ h1 h2 s0 S1.out S2.out).mono ?_
          rintro e w' ⟨rfl, rfl⟩
          go_wp2_with fail
          refine (sSqrtRound_in _ s _ h1 h2 s0 S1.out S2.out).mono ?_
          rintro e w' ⟨rfl, rfl⟩
          go_wp2_with fail
          refine (SqrtFloor_in _ s _ h1 h2 s0 S1.out S2.out).mono ?_
          rintro e w' ⟨rfl, rfl⟩
          go_wp2_with (first | (go_at_call 28; refine (alive_any' _).mono ?_; rintro e w' ⟨rfl, rfl⟩))
          go_ret
          exact ⟨by first | rfl | (simp; done) | (simp; omega), (by repeat (first | exact Below.refl _ _ | refine balloc ?_ _ | refine bdrew ?_ | refine bdrewN ?_ _ | refine bset ?_ (by first | (simp; done) | (simp; omega)) _ | (refine bseq ?_ (by assumption)) | (refine bgrow ?_ (by assumption) (by omega))))⟩
    · have H : Hid (n < 0 ∨ 1152921504606846976 < n) := Lib.hid (by omega)
      clear h
      go_wp2_with fail
      refine (SqrtRound_out _ _ H.out).mono ?_
      rintro e w' ⟨rfl, rfl⟩
      go_wp2_with fail
      refine (sSqrtRound_out _ _ H.out).mono ?_
      rintro e w' ⟨rfl, rfl⟩
      go_wp2_with (first | (go_at_call 28; refine (alive_any' _).mono ?_; rintro e w' ⟨rfl, rfl⟩))
      go_ret
      exact ⟨by first | rfl | (simp; done) | (simp; omega), (by repeat (first | exact Below.refl _ _ | refine balloc ?_ _ | refine bdrew ?_ | refine bdrewN ?_ _ | refine bset ?_ (by first | (simp; done) | (simp; omega)) _ | (refine bseq ?_ (by assumption)) | (refine bgrow ?_ (by assumption) (by omega))))⟩

end Go.Proofs.Ytggcnpckedcjiaa.K

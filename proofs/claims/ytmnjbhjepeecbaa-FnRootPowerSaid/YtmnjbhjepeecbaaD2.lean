/- The walks of the laws on roots. -/
import Derived.Test.YtmnjbhjepeecbaaDraw2
import Derived.Test.YtmnjbhjepeecbaaRoot
namespace Go.Proofs.Ytmnjbhjepeecbaa.K
open Go.RowKit

theorem alive_any' (w : World) : Calls Try.prog 7 #[] w fun e w' => e = .returned (.bool true) ∧ w = w' := by
  have e5 : Lib.bitLen (Int.toNat 5) = 3 := by decide
  go_enter Try.func7, Try.ntmps7
  go_wp2_with (first | (go_at_call 12; refine (BitLength_in _ _ (by omega) (by omega)).mono ?_; rintro e w' ⟨rfl, rfl⟩))
  go_ret
  exact ⟨rfl, rfl⟩
theorem near_lo {n s : Int} (h : ¬ s < n - s * s) : near n s = s := by unfold near; rw [if_neg h]
theorem near_hi {n s : Int} (h : s < n - s * s) : near n s = s + 1 := by unfold near; rw [if_pos h]
theorem cube_bounds {n s : Int} (n2 : n ≤ 1152921504606846976) (s0 : 0 ≤ s) (s1 : s * s * s ≤ n) : s ≤ 1048576 ∧ 0 ≤ s * s ∧ s * s ≤ 1099511627776 ∧ 0 ≤ s * s * s ∧ 0 ≤ (s + 1) * (s + 1) ∧ (s + 1) * (s + 1) ≤ 1099513724929 ∧ 0 ≤ (s + 1) * (s + 1) * (s + 1) ∧ (s + 1) * (s + 1) * (s + 1) ≤ 1152924803144876033 := by
  have h := cube_lt (n := n) (s := s) (r := 1048577) (by omega) s1 (by omega)
  have q0 : 0 ≤ s * s := Int.mul_nonneg s0 s0
  have q1 : s * s ≤ 1048576 * 1048576 := Int.mul_le_mul (by omega) (by omega) s0 (by omega)
  have q2 : 0 ≤ (s + 1) * (s + 1) := Int.mul_nonneg (by omega) (by omega)
  have q3 : (s + 1) * (s + 1) ≤ 1048577 * 1048577 := Int.mul_le_mul (by omega) (by omega) (by omega) (by omega)
  have q4 : (s + 1) * (s + 1) * (s + 1) ≤ 1099513724929 * 1048577 := Int.mul_le_mul (by omega) (by omega) (by omega) (by omega)
  exact ⟨by omega, q0, by omega, Int.mul_nonneg q0 s0, q2, by omega, Int.mul_nonneg q2 (by omega), by omega⟩



end Go.Proofs.Ytmnjbhjepeecbaa.K

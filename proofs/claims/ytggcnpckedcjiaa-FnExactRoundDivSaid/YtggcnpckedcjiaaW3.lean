/- The walks of the exact laws on rounding and lengths. -/
import Derived.Test.YtggcnpckedcjiaaNum
namespace Go.Proofs.Ytggcnpckedcjiaa.K
open Go.RowKit

theorem FnExactRoundDiv_walk (a0 a1 : Int) (w : World) (_w0 : (Lit.int .i64 a0).wf = true) (_w1 : (Lit.int .i64 a1).wf = true) : Calls Try.prog 5 #[.int .i64 a0, .int .i64 a1] w fun e w' => e = .returned (.bool true) ∧ Below w.heap.size w w' := by
  by_cases h : (-1152921504606846976 ≤ a0 ∧ a0 ≤ 1152921504606846976) ∧ 1 ≤ a1 ∧ a1 ≤ 1152921504606846976
  · obtain ⟨ha, hb⟩ := h
    go_enter Try.func5, Try.ntmps5
    go_wp2_with (first | (go_at_call 19; refine (sRoundDiv_in _ _ _ ha hb).mono ?_; rintro e w' ⟨rfl, rfl⟩) | (go_at_call 20; refine (RoundDiv_in _ _ _ ha hb).mono ?_; rintro e w' ⟨rfl, rfl⟩))
    go_ret
    exact ⟨rfl, Below.refl _ _⟩
  · have h' : (a0 < -1152921504606846976 ∨ 1152921504606846976 < a0) ∨ a1 < 1 ∨ 1152921504606846976 < a1 := by omega
    clear h
    go_enter Try.func5, Try.ntmps5
    go_wp2_with (first | (go_at_call 19; refine (sRoundDiv_out _ _ _ h').mono ?_; rintro e w' ⟨rfl, rfl⟩) | (go_at_call 20; refine (RoundDiv_out _ _ _ h').mono ?_; rintro e w' ⟨rfl, rfl⟩))
    go_ret
    exact ⟨rfl, Below.refl _ _⟩

theorem FnExactRoundShift_walk (a0 a1 : Int) (w : World) (_w0 : (Lit.int .i64 a0).wf = true) (_w1 : (Lit.int .i64 a1).wf = true) : Calls Try.prog 4 #[.int .i64 a0, .int .i64 a1] w fun e w' => e = .returned (.bool true) ∧ Below w.heap.size w w' := by
  by_cases h : (-1152921504606846976 ≤ a0 ∧ a0 ≤ 1152921504606846976) ∧ 0 ≤ a1 ∧ a1 ≤ 60
  · obtain ⟨ha, hb⟩ := h
    go_enter Try.func4, Try.ntmps4
    go_wp2_with (first | (go_at_call 17; refine (sRoundShift_in _ _ _ ha hb).mono ?_; rintro e w' ⟨rfl, rfl⟩) | (go_at_call 18; refine (RoundShift_in _ _ _ ha hb).mono ?_; rintro e w' ⟨rfl, rfl⟩))
    go_ret
    exact ⟨rfl, Below.refl _ _⟩
  · have h' : (a0 < -1152921504606846976 ∨ 1152921504606846976 < a0) ∨ a1 < 0 ∨ 60 < a1 := by omega
    clear h
    go_enter Try.func4, Try.ntmps4
    go_wp2_with (first | (go_at_call 17; refine (sRoundShift_out _ _ _ h').mono ?_; rintro e w' ⟨rfl, rfl⟩) | (go_at_call 18; refine (RoundShift_out _ _ _ h').mono ?_; rintro e w' ⟨rfl, rfl⟩))
    go_ret
    exact ⟨rfl, Below.refl _ _⟩

end Go.Proofs.Ytggcnpckedcjiaa.K

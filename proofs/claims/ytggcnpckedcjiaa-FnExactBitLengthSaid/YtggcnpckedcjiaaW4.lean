/- The walks of the exact laws on lengths and roots. -/
import Derived.Test.YtggcnpckedcjiaaRoot
namespace Go.Proofs.Ytggcnpckedcjiaa.K
open Go.RowKit

theorem FnExactBitLength_walk (a0 : Int) (w : World) (_w0 : (Lit.int .i64 a0).wf = true) : Calls Try.prog 3 #[.int .i64 a0] w fun e w' => e = .returned (.bool true) ∧ Below w.heap.size w w' := by
  by_cases h : 0 ≤ a0 ∧ a0 ≤ 1152921504606846976
  · obtain ⟨h1, h2⟩ := h
    go_enter Try.func3, Try.ntmps3
    go_wp2_with (first | (go_at_call 15; refine (sBitLength_in _ _ h1 h2).mono ?_; rintro e w' ⟨rfl, rfl⟩) | (go_at_call 16; refine (BitLength_in _ _ h1 h2).mono ?_; rintro e w' ⟨rfl, rfl⟩))
    go_ret
    exact ⟨rfl, Below.refl _ _⟩
  · have H : Hid (a0 < 0 ∨ 1152921504606846976 < a0) := Lib.hid (by omega)
    clear h
    go_enter Try.func3, Try.ntmps3
    go_wp2_with (first | (go_at_call 15; refine (sBitLength_out _ _ H.out).mono ?_; rintro e w' ⟨rfl, rfl⟩) | (go_at_call 16; refine (BitLength_out _ _ H.out).mono ?_; rintro e w' ⟨rfl, rfl⟩))
    go_ret
    exact ⟨rfl, Below.refl _ _⟩

theorem FnExactSqrtFloor_walk (a0 : Int) (w : World) (_w0 : (Lit.int .i64 a0).wf = true) : Calls Try.prog 7 #[.int .i64 a0] w fun e w' => e = .returned (.bool true) ∧ Below w.heap.size w w' := by
  by_cases h : 0 ≤ a0 ∧ a0 ≤ 1152921504606846976
  · obtain ⟨h1, h2⟩ := h
    obtain ⟨s, s0, s1, s2⟩ := exists_isqrt a0 h1
    have S1 := Lib.hid s1
    have S2 := Lib.hid s2
    clear s1 s2
    go_enter Try.func7, Try.ntmps7
    go_wp2_with (first | (go_at_call 23; refine (sSqrtFloor_in _ s _ h1 h2 s0 S1.out S2.out).mono ?_; rintro e w' ⟨rfl, rfl⟩) | (go_at_call 24; refine (SqrtFloor_in _ s _ h1 h2 s0 S1.out S2.out).mono ?_; rintro e w' ⟨rfl, rfl⟩))
    go_ret
    exact ⟨rfl, Below.refl _ _⟩
  · have H : Hid (a0 < 0 ∨ 1152921504606846976 < a0) := Lib.hid (by omega)
    clear h
    go_enter Try.func7, Try.ntmps7
    go_wp2_with (first | (go_at_call 23; refine (sSqrtFloor_out _ _ H.out).mono ?_; rintro e w' ⟨rfl, rfl⟩) | (go_at_call 24; refine (SqrtFloor_out _ _ H.out).mono ?_; rintro e w' ⟨rfl, rfl⟩))
    go_ret
    exact ⟨rfl, Below.refl _ _⟩

theorem FnExactSqrtRound_walk (a0 : Int) (w : World) (_w0 : (Lit.int .i64 a0).wf = true) : Calls Try.prog 8 #[.int .i64 a0] w fun e w' => e = .returned (.bool true) ∧ Below w.heap.size w w' := by
  by_cases h : 0 ≤ a0 ∧ a0 ≤ 1152921504606846976
  · obtain ⟨h1, h2⟩ := h
    obtain ⟨s, s0, s1, s2⟩ := exists_isqrt a0 h1
    have S1 := Lib.hid s1
    have S2 := Lib.hid s2
    clear s1 s2
    go_enter Try.func8, Try.ntmps8
    go_wp2_with (first | (go_at_call 25; refine (sSqrtRound_in _ s _ h1 h2 s0 S1.out S2.out).mono ?_; rintro e w' ⟨rfl, rfl⟩) | (go_at_call 26; refine (SqrtRound_in _ s _ h1 h2 s0 S1.out S2.out).mono ?_; rintro e w' ⟨rfl, rfl⟩))
    go_ret
    exact ⟨rfl, Below.refl _ _⟩
  · have H : Hid (a0 < 0 ∨ 1152921504606846976 < a0) := Lib.hid (by omega)
    clear h
    go_enter Try.func8, Try.ntmps8
    go_wp2_with (first | (go_at_call 25; refine (sSqrtRound_out _ _ H.out).mono ?_; rintro e w' ⟨rfl, rfl⟩) | (go_at_call 26; refine (SqrtRound_out _ _ H.out).mono ?_; rintro e w' ⟨rfl, rfl⟩))
    go_ret
    exact ⟨rfl, Below.refl _ _⟩

theorem FnExactCubeFloor_walk (a0 : Int) (w : World) (_w0 : (Lit.int .i64 a0).wf = true) : Calls Try.prog 6 #[.int .i64 a0] w fun e w' => e = .returned (.bool true) ∧ Below w.heap.size w w' := by
  by_cases h : 0 ≤ a0 ∧ a0 ≤ 1152921504606846976
  · obtain ⟨h1, h2⟩ := h
    obtain ⟨s, s0, s1, s2⟩ := exists_icbrt a0 h1
    have S1 := Lib.hid s1
    have S2 := Lib.hid s2
    clear s1 s2
    go_enter Try.func6, Try.ntmps6
    go_wp2_with (first | (go_at_call 21; refine (sCubeFloor_in _ s _ h1 h2 s0 S1.out S2.out).mono ?_; rintro e w' ⟨rfl, rfl⟩) | (go_at_call 22; refine (CubeFloor_in _ s _ h1 h2 s0 S1.out S2.out).mono ?_; rintro e w' ⟨rfl, rfl⟩))
    go_ret
    exact ⟨rfl, Below.refl _ _⟩
  · have H : Hid (a0 < 0 ∨ 1152921504606846976 < a0) := Lib.hid (by omega)
    clear h
    go_enter Try.func6, Try.ntmps6
    go_wp2_with (first | (go_at_call 21; refine (sCubeFloor_out _ _ H.out).mono ?_; rintro e w' ⟨rfl, rfl⟩) | (go_at_call 22; refine (CubeFloor_out _ _ H.out).mono ?_; rintro e w' ⟨rfl, rfl⟩))
    go_ret
    exact ⟨rfl, Below.refl _ _⟩

end Go.Proofs.Ytggcnpckedcjiaa.K

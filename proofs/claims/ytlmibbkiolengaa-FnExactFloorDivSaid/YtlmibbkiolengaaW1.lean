/- The walks of the simplest exact laws. -/
import Derived.Test.YtlmibbkiolengaaNum
import Derived.Test.YtlmibbkiolengaaBase
namespace Go.Proofs.Ytlmibbkiolengaa.K
open Go.RowKit

theorem FnExactConstants_walk (w : World) : Calls Try.prog 3 #[] w fun e w' => e = .returned (.bool true) ∧ Below w.heap.size w w' := by
  go_enter Try.func3, Try.ntmps3
  go_wp2
  go_ret
  exact ⟨rfl, Below.refl _ _⟩

theorem FnExactQuarterOf_walk (a0 : Int) (w : World) (_w0 : (Lit.int .i64 a0).wf = true) : Calls Try.prog 4 #[.int .i64 a0] w fun e w' => e = .returned (.bool true) ∧ Below w.heap.size w w' := by
  by_cases h1 : 0 ≤ a0
  · by_cases h2 : a0 ≤ 65535
    · go_enter Try.func4, Try.ntmps4
      go_wp2
      go_ret
      exact ⟨rfl, Below.refl _ _⟩
    · go_enter Try.func4, Try.ntmps4
      go_wp2
      go_ret
      exact ⟨rfl, Below.refl _ _⟩
  · go_enter Try.func4, Try.ntmps4
    go_wp2
    go_ret
    exact ⟨rfl, Below.refl _ _⟩

theorem FnExactFoldAngle_walk (a0 : Int) (w : World) (_w0 : (Lit.int .i64 a0).wf = true) : Calls Try.prog 7 #[.int .i64 a0] w fun e w' => e = .returned (.bool true) ∧ Below w.heap.size w w' := by
  have hb := and_16383 a0
  by_cases h1 : 0 ≤ a0
  · by_cases h2 : a0 ≤ 65535
    · by_cases h3 : a0 % 16384 ≤ 8192
      · go_enter Try.func7, Try.ntmps7
        go_wp2
        go_ret
        exact ⟨rfl, Below.refl _ _⟩
      · go_enter Try.func7, Try.ntmps7
        go_wp2
        go_ret
        exact ⟨rfl, Below.refl _ _⟩
    · go_enter Try.func7, Try.ntmps7
      go_wp2
      go_ret
      exact ⟨rfl, Below.refl _ _⟩
  · go_enter Try.func7, Try.ntmps7
    go_wp2
    go_ret
    exact ⟨rfl, Below.refl _ _⟩

theorem FnExactWrapAngle_walk (a0 : Int) (w : World) (_w0 : (Lit.int .i64 a0).wf = true) : Calls Try.prog 11 #[.int .i64 a0] w fun e w' => e = .returned (.bool true) ∧ Below w.heap.size w w' := by
  have hb := and_65535 a0
  by_cases h1 : -1152921504606846976 ≤ a0
  · by_cases h2 : a0 ≤ 1152921504606846976
    · by_cases h3 : 0 ≤ a0
      · go_enter Try.func11, Try.ntmps11
        go_wp2
        go_ret
        exact ⟨rfl, Below.refl _ _⟩
      · have e1 : a0.tmod 65536 = (if a0 % 65536 = 0 then 0 else a0 % 65536 - 65536) := by
          rw [Int.tmod_eq_emod]; split <;> simp_all <;> omega
        by_cases h4 : a0 % 65536 = 0
        · rw [if_pos h4] at e1
          rw [h4] at hb
          go_enter Try.func11, Try.ntmps11
          go_wp2
          go_ret
          exact ⟨rfl, Below.refl _ _⟩
        · rw [if_neg h4] at e1
          have h5 : a0 % 65536 - 65536 < 0 := by omega
          go_enter Try.func11, Try.ntmps11
          go_wp2
          go_ret
          exact ⟨rfl, Below.refl _ _⟩
    · go_enter Try.func11, Try.ntmps11
      go_wp2
      go_ret
      exact ⟨rfl, Below.refl _ _⟩
  · go_enter Try.func11, Try.ntmps11
    go_wp2
    go_ret
    exact ⟨rfl, Below.refl _ _⟩

theorem FnExactFloorDiv_walk (a0 a1 : Int) (w : World) (_w0 : (Lit.int .i64 a0).wf = true) (_w1 : (Lit.int .i64 a1).wf = true) : Calls Try.prog 13 #[.int .i64 a0, .int .i64 a1] w fun e w' => e = .returned (.bool true) ∧ Below w.heap.size w w' := by
  by_cases h : (-1152921504606846976 ≤ a0 ∧ a0 ≤ 1152921504606846976) ∧ 1 ≤ a1 ∧ a1 ≤ 1152921504606846976
  · obtain ⟨ha, hb⟩ := h
    go_enter Try.func13, Try.ntmps13
    go_wp2_with (first | (go_at_call 34; refine (sFloorDiv_in _ _ _ ha hb).mono ?_; rintro e w' ⟨rfl, rfl⟩) | (go_at_call 35; refine (FloorDiv_in _ _ _ ha hb).mono ?_; rintro e w' ⟨rfl, rfl⟩))
    go_ret
    exact ⟨rfl, Below.refl _ _⟩
  · have h' : (a0 < -1152921504606846976 ∨ 1152921504606846976 < a0) ∨ a1 < 1 ∨ 1152921504606846976 < a1 := by omega
    clear h
    go_enter Try.func13, Try.ntmps13
    go_wp2_with (first | (go_at_call 34; refine (sFloorDiv_out _ _ _ h').mono ?_; rintro e w' ⟨rfl, rfl⟩) | (go_at_call 35; refine (FloorDiv_out _ _ _ h').mono ?_; rintro e w' ⟨rfl, rfl⟩))
    go_ret
    exact ⟨rfl, Below.refl _ _⟩

theorem FnExactFloorShift_walk (a0 a1 : Int) (w : World) (_w0 : (Lit.int .i64 a0).wf = true) (_w1 : (Lit.int .i64 a1).wf = true) : Calls Try.prog 10 #[.int .i64 a0, .int .i64 a1] w fun e w' => e = .returned (.bool true) ∧ Below w.heap.size w w' := by
  by_cases h1 : -1152921504606846976 ≤ a0
  · by_cases h2 : a0 ≤ 1152921504606846976
    · by_cases h3 : 0 ≤ a1
      · by_cases h4 : a1 ≤ 60
        · have p1 := pow_pos' a1.toNat
          have p2 := pow_60 h4
          go_enter Try.func10, Try.ntmps10
          go_wp2_with (first | (go_at_call 38; refine (l1Floor_in _ _ _ (by omega) (by omega)).mono ?_; rintro e w' ⟨rfl, rfl⟩) | go_in)
          go_ret
          exact ⟨rfl, Below.refl _ _⟩
        · go_enter Try.func10, Try.ntmps10
          go_wp2
          go_ret
          exact ⟨rfl, Below.refl _ _⟩
      · go_enter Try.func10, Try.ntmps10
        go_wp2
        go_ret
        exact ⟨rfl, Below.refl _ _⟩
    · go_enter Try.func10, Try.ntmps10
      go_wp2
      go_ret
      exact ⟨rfl, Below.refl _ _⟩
  · go_enter Try.func10, Try.ntmps10
    go_wp2
    go_ret
    exact ⟨rfl, Below.refl _ _⟩

end Go.Proofs.Ytlmibbkiolengaa.K

/- The walks of the exact laws on formats and spans that answer a bool or a number. -/
import Derived.Test.YtlmibbkiolengaaFmt
namespace Go.Proofs.Ytlmibbkiolengaa.K
open Go.RowKit

set_option maxHeartbeats 1000000 in
theorem FnExactFormatValid_walk (a0 b0 : Int) (w : World) (_wa0 : (Lit.int .i64 a0).wf = true) (_wb0 : (Lit.int .i64 b0).wf = true) : Calls Try.prog 5 #[.agg #[.int .i64 a0, .int .i64 b0]] w fun e w' => e = .returned (.bool true) ∧ Below w.heap.size w w' := by
  by_cases h0 : 1 ≤ a0
  · by_cases h1 : a0 ≤ 12
    · by_cases h2 : 0 ≤ b0
      · by_cases h3 : b0 ≤ 16
        · go_enter Try.func5, Try.ntmps5
          go_wp2_with (first | (go_at_call 17; refine (toFormat_any _ _ _).mono ?_; rintro e w' ⟨rfl, rfl⟩) | go_in)
          go_ret
          exact ⟨rfl, (by repeat (first | exact Below.refl _ _ | refine balloc ?_ _ | refine bdrew ?_ | refine bdrewN ?_ _ | (refine bseq ?_ (by assumption))))⟩
        · go_enter Try.func5, Try.ntmps5
          go_wp2_with (first | (go_at_call 17; refine (toFormat_any _ _ _).mono ?_; rintro e w' ⟨rfl, rfl⟩) | go_in)
          go_ret
          exact ⟨rfl, (by repeat (first | exact Below.refl _ _ | refine balloc ?_ _ | refine bdrew ?_ | refine bdrewN ?_ _ | (refine bseq ?_ (by assumption))))⟩
      · go_enter Try.func5, Try.ntmps5
        go_wp2_with (first | (go_at_call 17; refine (toFormat_any _ _ _).mono ?_; rintro e w' ⟨rfl, rfl⟩) | go_in)
        go_ret
        exact ⟨rfl, (by repeat (first | exact Below.refl _ _ | refine balloc ?_ _ | refine bdrew ?_ | refine bdrewN ?_ _ | (refine bseq ?_ (by assumption))))⟩
    · go_enter Try.func5, Try.ntmps5
      go_wp2_with (first | (go_at_call 17; refine (toFormat_any _ _ _).mono ?_; rintro e w' ⟨rfl, rfl⟩) | go_in)
      go_ret
      exact ⟨rfl, (by repeat (first | exact Below.refl _ _ | refine balloc ?_ _ | refine bdrew ?_ | refine bdrewN ?_ _ | (refine bseq ?_ (by assumption))))⟩
  · go_enter Try.func5, Try.ntmps5
    go_wp2_with (first | (go_at_call 17; refine (toFormat_any _ _ _).mono ?_; rintro e w' ⟨rfl, rfl⟩) | go_in)
    go_ret
    exact ⟨rfl, (by repeat (first | exact Below.refl _ _ | refine balloc ?_ _ | refine bdrew ?_ | refine bdrewN ?_ _ | (refine bseq ?_ (by assumption))))⟩

set_option maxHeartbeats 1000000 in
theorem FnExactSpanValid_walk (a0 b0 : Int) (w : World) (_wa0 : (Lit.int .i64 a0).wf = true) (_wb0 : (Lit.int .i64 b0).wf = true) : Calls Try.prog 6 #[.agg #[.int .i64 a0, .int .i64 b0]] w fun e w' => e = .returned (.bool true) ∧ Below w.heap.size w w' := by
  by_cases h0 : -1073741824 ≤ a0
  · by_cases h1 : a0 ≤ 1073741824
    · by_cases h2 : -1073741824 ≤ b0
      · by_cases h3 : b0 ≤ 1073741824
        · by_cases h4 : a0 ≤ b0
          · go_enter Try.func6, Try.ntmps6
            go_wp2_with (first | (go_at_call 20; refine (toSpan_any _ _ _).mono ?_; rintro e w' ⟨rfl, rfl⟩) | go_in)
            go_ret
            exact ⟨rfl, (by repeat (first | exact Below.refl _ _ | refine balloc ?_ _ | refine bdrew ?_ | refine bdrewN ?_ _ | (refine bseq ?_ (by assumption))))⟩
          · go_enter Try.func6, Try.ntmps6
            go_wp2_with (first | (go_at_call 20; refine (toSpan_any _ _ _).mono ?_; rintro e w' ⟨rfl, rfl⟩) | go_in)
            go_ret
            exact ⟨rfl, (by repeat (first | exact Below.refl _ _ | refine balloc ?_ _ | refine bdrew ?_ | refine bdrewN ?_ _ | (refine bseq ?_ (by assumption))))⟩
        · go_enter Try.func6, Try.ntmps6
          go_wp2_with (first | (go_at_call 20; refine (toSpan_any _ _ _).mono ?_; rintro e w' ⟨rfl, rfl⟩) | go_in)
          go_ret
          exact ⟨rfl, (by repeat (first | exact Below.refl _ _ | refine balloc ?_ _ | refine bdrew ?_ | refine bdrewN ?_ _ | (refine bseq ?_ (by assumption))))⟩
      · go_enter Try.func6, Try.ntmps6
        go_wp2_with (first | (go_at_call 20; refine (toSpan_any _ _ _).mono ?_; rintro e w' ⟨rfl, rfl⟩) | go_in)
        go_ret
        exact ⟨rfl, (by repeat (first | exact Below.refl _ _ | refine balloc ?_ _ | refine bdrew ?_ | refine bdrewN ?_ _ | (refine bseq ?_ (by assumption))))⟩
    · go_enter Try.func6, Try.ntmps6
      go_wp2_with (first | (go_at_call 20; refine (toSpan_any _ _ _).mono ?_; rintro e w' ⟨rfl, rfl⟩) | go_in)
      go_ret
      exact ⟨rfl, (by repeat (first | exact Below.refl _ _ | refine balloc ?_ _ | refine bdrew ?_ | refine bdrewN ?_ _ | (refine bseq ?_ (by assumption))))⟩
  · go_enter Try.func6, Try.ntmps6
    go_wp2_with (first | (go_at_call 20; refine (toSpan_any _ _ _).mono ?_; rintro e w' ⟨rfl, rfl⟩) | go_in)
    go_ret
    exact ⟨rfl, (by repeat (first | exact Below.refl _ _ | refine balloc ?_ _ | refine bdrew ?_ | refine bdrewN ?_ _ | (refine bseq ?_ (by assumption))))⟩

set_option maxHeartbeats 1000000 in
theorem FnExactSpanHas_walk (a0 b0 a1 : Int) (w : World) (_wa0 : (Lit.int .i64 a0).wf = true) (_wb0 : (Lit.int .i64 b0).wf = true) (_wa1 : (Lit.int .i64 a1).wf = true) : Calls Try.prog 8 #[.agg #[.int .i64 a0, .int .i64 b0], .int .i64 a1] w fun e w' => e = .returned (.bool true) ∧ Below w.heap.size w w' := by
  by_cases h0 : -1073741824 ≤ a0
  · by_cases h1 : a0 ≤ 1073741824
    · by_cases h2 : -1073741824 ≤ b0
      · by_cases h3 : b0 ≤ 1073741824
        · by_cases h4 : a0 ≤ b0
          · by_cases h5 : a0 ≤ a1
            · by_cases h6 : a1 ≤ b0
              · go_enter Try.func8, Try.ntmps8
                go_wp2_with (first | (go_at_call 20; refine (toSpan_any _ _ _).mono ?_; rintro e w' ⟨rfl, rfl⟩) | go_in)
                go_ret
                exact ⟨rfl, (by repeat (first | exact Below.refl _ _ | refine balloc ?_ _ | refine bdrew ?_ | refine bdrewN ?_ _ | (refine bseq ?_ (by assumption))))⟩
              · go_enter Try.func8, Try.ntmps8
                go_wp2_with (first | (go_at_call 20; refine (toSpan_any _ _ _).mono ?_; rintro e w' ⟨rfl, rfl⟩) | go_in)
                go_ret
                exact ⟨rfl, (by repeat (first | exact Below.refl _ _ | refine balloc ?_ _ | refine bdrew ?_ | refine bdrewN ?_ _ | (refine bseq ?_ (by assumption))))⟩
            · go_enter Try.func8, Try.ntmps8
              go_wp2_with (first | (go_at_call 20; refine (toSpan_any _ _ _).mono ?_; rintro e w' ⟨rfl, rfl⟩) | go_in)
              go_ret
              exact ⟨rfl, (by repeat (first | exact Below.refl _ _ | refine balloc ?_ _ | refine bdrew ?_ | refine bdrewN ?_ _ | (refine bseq ?_ (by assumption))))⟩
          · go_enter Try.func8, Try.ntmps8
            go_wp2_with (first | (go_at_call 20; refine (toSpan_any _ _ _).mono ?_; rintro e w' ⟨rfl, rfl⟩) | go_in)
            go_ret
            exact ⟨rfl, (by repeat (first | exact Below.refl _ _ | refine balloc ?_ _ | refine bdrew ?_ | refine bdrewN ?_ _ | (refine bseq ?_ (by assumption))))⟩
        · go_enter Try.func8, Try.ntmps8
          go_wp2_with (first | (go_at_call 20; refine (toSpan_any _ _ _).mono ?_; rintro e w' ⟨rfl, rfl⟩) | go_in)
          go_ret
          exact ⟨rfl, (by repeat (first | exact Below.refl _ _ | refine balloc ?_ _ | refine bdrew ?_ | refine bdrewN ?_ _ | (refine bseq ?_ (by assumption))))⟩
      · go_enter Try.func8, Try.ntmps8
        go_wp2_with (first | (go_at_call 20; refine (toSpan_any _ _ _).mono ?_; rintro e w' ⟨rfl, rfl⟩) | go_in)
        go_ret
        exact ⟨rfl, (by repeat (first | exact Below.refl _ _ | refine balloc ?_ _ | refine bdrew ?_ | refine bdrewN ?_ _ | (refine bseq ?_ (by assumption))))⟩
    · go_enter Try.func8, Try.ntmps8
      go_wp2_with (first | (go_at_call 20; refine (toSpan_any _ _ _).mono ?_; rintro e w' ⟨rfl, rfl⟩) | go_in)
      go_ret
      exact ⟨rfl, (by repeat (first | exact Below.refl _ _ | refine balloc ?_ _ | refine bdrew ?_ | refine bdrewN ?_ _ | (refine bseq ?_ (by assumption))))⟩
  · go_enter Try.func8, Try.ntmps8
    go_wp2_with (first | (go_at_call 20; refine (toSpan_any _ _ _).mono ?_; rintro e w' ⟨rfl, rfl⟩) | go_in)
    go_ret
    exact ⟨rfl, (by repeat (first | exact Below.refl _ _ | refine balloc ?_ _ | refine bdrew ?_ | refine bdrewN ?_ _ | (refine bseq ?_ (by assumption))))⟩

set_option maxHeartbeats 1000000 in
theorem FnExactOneOf_walk (a0 b0 : Int) (w : World) (_wa0 : (Lit.int .i64 a0).wf = true) (_wb0 : (Lit.int .i64 b0).wf = true) : Calls Try.prog 9 #[.agg #[.int .i64 a0, .int .i64 b0]] w fun e w' => e = .returned (.bool true) ∧ Below w.heap.size w w' := by
  by_cases h0 : 1 ≤ a0
  · by_cases h1 : a0 ≤ 12
    · by_cases h2 : 0 ≤ b0
      · by_cases h3 : b0 ≤ 16
        · have p1 := pow_pos' b0.toNat
          have p2 := pow_60 (k := b0) (by omega)
          go_enter Try.func9, Try.ntmps9
          go_wp2_with (first | (go_at_call 17; refine (toFormat_any _ _ _).mono ?_; rintro e w' ⟨rfl, rfl⟩) | go_in)
          go_ret
          exact ⟨rfl, (by repeat (first | exact Below.refl _ _ | refine balloc ?_ _ | refine bdrew ?_ | refine bdrewN ?_ _ | (refine bseq ?_ (by assumption))))⟩
        · have hd : decide (b0 ≤ 16) = false := decide_eq_false h3
          go_enter Try.func9, Try.ntmps9
          go_wp2_with (first | (go_at_call 17; refine (toFormat_any _ _ _).mono ?_; rintro e w' ⟨rfl, rfl⟩) | go_in)
          go_ret
          exact ⟨rfl, (by repeat (first | exact Below.refl _ _ | refine balloc ?_ _ | refine bdrew ?_ | refine bdrewN ?_ _ | (refine bseq ?_ (by assumption))))⟩
      · go_enter Try.func9, Try.ntmps9
        go_wp2_with (first | (go_at_call 17; refine (toFormat_any _ _ _).mono ?_; rintro e w' ⟨rfl, rfl⟩) | go_in)
        go_ret
        exact ⟨rfl, (by repeat (first | exact Below.refl _ _ | refine balloc ?_ _ | refine bdrew ?_ | refine bdrewN ?_ _ | (refine bseq ?_ (by assumption))))⟩
    · go_enter Try.func9, Try.ntmps9
      go_wp2_with (first | (go_at_call 17; refine (toFormat_any _ _ _).mono ?_; rintro e w' ⟨rfl, rfl⟩) | go_in)
      go_ret
      exact ⟨rfl, (by repeat (first | exact Below.refl _ _ | refine balloc ?_ _ | refine bdrew ?_ | refine bdrewN ?_ _ | (refine bseq ?_ (by assumption))))⟩
  · go_enter Try.func9, Try.ntmps9
    go_wp2_with (first | (go_at_call 17; refine (toFormat_any _ _ _).mono ?_; rintro e w' ⟨rfl, rfl⟩) | go_in)
    go_ret
    exact ⟨rfl, (by repeat (first | exact Below.refl _ _ | refine balloc ?_ _ | refine bdrew ?_ | refine bdrewN ?_ _ | (refine bseq ?_ (by assumption))))⟩

theorem FnExactStoredFits_walk (a0 b0 a1 : Int) (w : World) (_wa0 : (Lit.int .i64 a0).wf = true) (_wb0 : (Lit.int .i64 b0).wf = true) (_wa1 : (Lit.int .i64 a1).wf = true) : Calls Try.prog 12 #[.agg #[.int .i64 a0, .int .i64 b0], .int .i64 a1] w fun e w' => e = .returned (.bool true) ∧ Below w.heap.size w w' := by
  by_cases h : 1 ≤ a0 ∧ a0 ≤ 12 ∧ 0 ≤ b0 ∧ b0 ≤ 16
  · obtain ⟨h1, h2, h3, h4⟩ := h
    by_cases h5 : -2 ^ (a0 + b0).toNat ≤ a1 ∧ a1 ≤ 2 ^ (a0 + b0).toNat - 1
    · obtain ⟨h5, h6⟩ := h5
      go_enter Try.func12, Try.ntmps12
      go_wp2_with (first | (go_at_call 17; refine (toFormat_any _ _ _).mono ?_; rintro e w' ⟨rfl, rfl⟩) | (go_at_call 32; refine (sStoredFits_yes _ _ _ _ h1 h2 h3 h4 h5 h6).mono ?_; rintro e w1 ⟨rfl, hb1⟩; obtain ⟨hc1, hf1⟩ := bcell hb1; have hz1 := hb1.size) | (go_at_call 33; refine (StoredFits_yes _ _ _ _ h1 h2 h3 h4 h5 h6).mono ?_; rintro e w2 ⟨rfl, hb2⟩))
      go_ret
      exact ⟨rfl, (by repeat (first | exact Below.refl _ _ | refine balloc ?_ _ | refine bdrew ?_ | refine bdrewN ?_ _ | (refine bseq ?_ (by assumption))))⟩
    · have H : Hid (a1 < -2 ^ (a0 + b0).toNat ∨ 2 ^ (a0 + b0).toNat - 1 < a1) := Lib.hid (by omega)
      clear h5
      go_enter Try.func12, Try.ntmps12
      go_wp2_with (first | (go_at_call 17; refine (toFormat_any _ _ _).mono ?_; rintro e w' ⟨rfl, rfl⟩) | (go_at_call 32; refine (sStoredFits_far _ _ _ _ h1 h2 h3 h4 H.out).mono ?_; rintro e w1 ⟨rfl, hb1⟩; obtain ⟨hc1, hf1⟩ := bcell hb1; have hz1 := hb1.size) | (go_at_call 33; refine (StoredFits_far _ _ _ _ h1 h2 h3 h4 H.out).mono ?_; rintro e w2 ⟨rfl, hb2⟩))
      go_ret
      exact ⟨rfl, (by repeat (first | exact Below.refl _ _ | refine balloc ?_ _ | refine bdrew ?_ | refine bdrewN ?_ _ | (refine bseq ?_ (by assumption))))⟩
  · have H : Hid (a0 < 1 ∨ 12 < a0 ∨ b0 < 0 ∨ 16 < b0) := Lib.hid (by omega)
    clear h
    go_enter Try.func12, Try.ntmps12
    go_wp2_with (first | (go_at_call 17; refine (toFormat_any _ _ _).mono ?_; rintro e w' ⟨rfl, rfl⟩) | (go_at_call 32; refine (sStoredFits_bad _ _ _ _ H.out).mono ?_; rintro e w1 ⟨rfl, hb1⟩; obtain ⟨hc1, hf1⟩ := bcell hb1; have hz1 := hb1.size) | (go_at_call 33; refine (StoredFits_bad _ _ _ _ H.out).mono ?_; rintro e w2 ⟨rfl, hb2⟩))
    go_ret
    exact ⟨rfl, (by repeat (first | exact Below.refl _ _ | refine balloc ?_ _ | refine bdrew ?_ | refine bdrewN ?_ _ | (refine bseq ?_ (by assumption))))⟩

end Go.Proofs.Ytlmibbkiolengaa.K

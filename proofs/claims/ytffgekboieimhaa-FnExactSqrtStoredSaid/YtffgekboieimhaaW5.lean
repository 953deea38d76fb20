/- The walks of the exact laws on formats. -/
import Derived.Test.YtffgekboieimhaaSqrtS
namespace Go.Proofs.Ytffgekboieimhaa.K
open Go.RowKit

theorem FnExactCutStored_walk (a0 b0 a1 : Int) (w : World) (_wa0 : (Lit.int .i64 a0).wf = true) (_wb0 : (Lit.int .i64 b0).wf = true) (_wa1 : (Lit.int .i64 a1).wf = true) : Calls Try.prog 3 #[.agg #[.int .i64 a0, .int .i64 b0], .int .i64 a1] w fun e w' => e = .returned (.bool true) ∧ Below w.heap.size w w' := by
  by_cases h : 1 ≤ a0 ∧ a0 ≤ 12 ∧ 0 ≤ b0 ∧ b0 ≤ 16
  · obtain ⟨h1, h2, h3, h4⟩ := h
    go_enter Try.func3, Try.ntmps3
    go_wp2_with fail
    refine (toFormat_any _ _ _).mono ?_
    rintro e w' ⟨rfl, rfl⟩
    go_wp2_with fail
    refine (sCutStored_in _ _ _ _ h1 h2 h3 h4).mono ?_
    rintro e w1 ⟨rfl, hb1⟩
    obtain ⟨hc1, hf1⟩ := bcell hb1
    have hz1 := hb1.size
    simp only [World.size_alloc] at hz1
    go_wp2_with fail
    refine (toFormat_any _ _ _).mono ?_
    rintro e w' ⟨rfl, rfl⟩
    go_wp2_with fail
    refine (CutStored_in _ _ _ _ h1 h2 h3 h4).mono ?_
    rintro e w2 ⟨rfl, hb2⟩
    go_wp2
    go_ret
    exact ⟨rfl, (by repeat (first | exact Below.refl _ _ | refine balloc ?_ _ | refine bdrew ?_ | refine bdrewN ?_ _ | (refine bseq ?_ (by assumption))))⟩
  · have H : Hid (a0 < 1 ∨ 12 < a0 ∨ b0 < 0 ∨ 16 < b0) := Lib.hid (by omega)
    clear h
    go_enter Try.func3, Try.ntmps3
    go_wp2_with fail
    refine (toFormat_any _ _ _).mono ?_
    rintro e w' ⟨rfl, rfl⟩
    go_wp2_with fail
    refine (sCutStored_bad _ _ _ _ H.out).mono ?_
    rintro e w1 ⟨rfl, hb1⟩
    obtain ⟨hc1, hf1⟩ := bcell hb1
    have hz1 := hb1.size
    simp only [World.size_alloc] at hz1
    go_wp2_with fail
    refine (toFormat_any _ _ _).mono ?_
    rintro e w' ⟨rfl, rfl⟩
    go_wp2_with fail
    refine (CutStored_bad _ _ _ _ H.out).mono ?_
    rintro e w2 ⟨rfl, hb2⟩
    go_wp2
    go_ret
    exact ⟨rfl, (by repeat (first | exact Below.refl _ _ | refine balloc ?_ _ | refine bdrew ?_ | refine bdrewN ?_ _ | (refine bseq ?_ (by assumption))))⟩

theorem FnExactAddStored_walk (a0 b0 a1 a2 : Int) (w : World) (_wa0 : (Lit.int .i64 a0).wf = true) (_wb0 : (Lit.int .i64 b0).wf = true) (_wa1 : (Lit.int .i64 a1).wf = true) (_wa2 : (Lit.int .i64 a2).wf = true) : Calls Try.prog 4 #[.agg #[.int .i64 a0, .int .i64 b0], .int .i64 a1, .int .i64 a2] w fun e w' => e = .returned (.bool true) ∧ Below w.heap.size w w' := by
  by_cases h : Fit a0 b0 a1 ∧ Fit a0 b0 a2
  · have H := Lib.hid h
    clear h
    go_enter Try.func4, Try.ntmps4
    go_wp2_with fail
    refine (toFormat_any _ _ _).mono ?_
    rintro e w' ⟨rfl, rfl⟩
    go_wp2_with fail
    refine (sAddStored_in _ _ _ _ _ H.out.1 H.out.2).mono ?_
    rintro e w1 ⟨rfl, hb1⟩
    obtain ⟨hc1, hf1⟩ := bcell hb1
    have hz1 := hb1.size
    simp only [World.size_alloc] at hz1
    go_wp2_with fail
    refine (toFormat_any _ _ _).mono ?_
    rintro e w' ⟨rfl, rfl⟩
    go_wp2_with fail
    refine (AddStored_in _ _ _ _ _ H.out.1 H.out.2).mono ?_
    rintro e w2 ⟨rfl, hb2⟩
    go_wp2
    go_ret
    exact ⟨rfl, (by repeat (first | exact Below.refl _ _ | refine balloc ?_ _ | refine bdrew ?_ | refine bdrewN ?_ _ | (refine bseq ?_ (by assumption))))⟩
  · have H : Hid (¬ Fit a0 b0 a1 ∨ ¬ Fit a0 b0 a2) := Lib.hid (by by_cases h1 : Fit a0 b0 a1; exact .inr (fun h2 => h ⟨h1, h2⟩); exact .inl h1)
    clear h
    go_enter Try.func4, Try.ntmps4
    go_wp2_with fail
    refine (toFormat_any _ _ _).mono ?_
    rintro e w' ⟨rfl, rfl⟩
    go_wp2_with fail
    refine (sAddStored_no _ _ _ _ _ H.out).mono ?_
    rintro e w1 ⟨rfl, hb1⟩
    obtain ⟨hc1, hf1⟩ := bcell hb1
    have hz1 := hb1.size
    simp only [World.size_alloc] at hz1
    go_wp2_with fail
    refine (toFormat_any _ _ _).mono ?_
    rintro e w' ⟨rfl, rfl⟩
    go_wp2_with fail
    refine (AddStored_no _ _ _ _ _ H.out).mono ?_
    rintro e w2 ⟨rfl, hb2⟩
    go_wp2
    go_ret
    exact ⟨rfl, (by repeat (first | exact Below.refl _ _ | refine balloc ?_ _ | refine bdrew ?_ | refine bdrewN ?_ _ | (refine bseq ?_ (by assumption))))⟩

theorem FnExactSubStored_walk (a0 b0 a1 a2 : Int) (w : World) (_wa0 : (Lit.int .i64 a0).wf = true) (_wb0 : (Lit.int .i64 b0).wf = true) (_wa1 : (Lit.int .i64 a1).wf = true) (_wa2 : (Lit.int .i64 a2).wf = true) : Calls Try.prog 5 #[.agg #[.int .i64 a0, .int .i64 b0], .int .i64 a1, .int .i64 a2] w fun e w' => e = .returned (.bool true) ∧ Below w.heap.size w w' := by
  by_cases h : Fit a0 b0 a1 ∧ Fit a0 b0 a2
  · have H := Lib.hid h
    clear h
    go_enter Try.func5, Try.ntmps5
    go_wp2_with fail
    refine (toFormat_any _ _ _).mono ?_
    rintro e w' ⟨rfl, rfl⟩
    go_wp2_with fail
    refine (sSubStored_in _ _ _ _ _ H.out.1 H.out.2).mono ?_
    rintro e w1 ⟨rfl, hb1⟩
    obtain ⟨hc1, hf1⟩ := bcell hb1
    have hz1 := hb1.size
    simp only [World.size_alloc] at hz1
    go_wp2_with fail
    refine (toFormat_any _ _ _).mono ?_
    rintro e w' ⟨rfl, rfl⟩
    go_wp2_with fail
    refine (SubStored_in _ _ _ _ _ H.out.1 H.out.2).mono ?_
    rintro e w2 ⟨rfl, hb2⟩
    go_wp2
    go_ret
    exact ⟨rfl, (by repeat (first | exact Below.refl _ _ | refine balloc ?_ _ | refine bdrew ?_ | refine bdrewN ?_ _ | (refine bseq ?_ (by assumption))))⟩
  · have H : Hid (¬ Fit a0 b0 a1 ∨ ¬ Fit a0 b0 a2) := Lib.hid (by by_cases h1 : Fit a0 b0 a1; exact .inr (fun h2 => h ⟨h1, h2⟩); exact .inl h1)
    clear h
    go_enter Try.func5, Try.ntmps5
    go_wp2_with fail
    refine (toFormat_any _ _ _).mono ?_
    rintro e w' ⟨rfl, rfl⟩
    go_wp2_with fail
    refine (sSubStored_no _ _ _ _ _ H.out).mono ?_
    rintro e w1 ⟨rfl, hb1⟩
    obtain ⟨hc1, hf1⟩ := bcell hb1
    have hz1 := hb1.size
    simp only [World.size_alloc] at hz1
    go_wp2_with fail
    refine (toFormat_any _ _ _).mono ?_
    rintro e w' ⟨rfl, rfl⟩
    go_wp2_with fail
    refine (SubStored_no _ _ _ _ _ H.out).mono ?_
    rintro e w2 ⟨rfl, hb2⟩
    go_wp2
    go_ret
    exact ⟨rfl, (by repeat (first | exact Below.refl _ _ | refine balloc ?_ _ | refine bdrew ?_ | refine bdrewN ?_ _ | (refine bseq ?_ (by assumption))))⟩

theorem FnExactWholeOf_walk (a0 b0 a1 : Int) (w : World) (_wa0 : (Lit.int .i64 a0).wf = true) (_wb0 : (Lit.int .i64 b0).wf = true) (_wa1 : (Lit.int .i64 a1).wf = true) : Calls Try.prog 6 #[.agg #[.int .i64 a0, .int .i64 b0], .int .i64 a1] w fun e w' => e = .returned (.bool true) ∧ Below w.heap.size w w' := by
  by_cases h : Fit a0 b0 a1
  · have H := Lib.hid h
    clear h
    go_enter Try.func6, Try.ntmps6
    go_wp2_with fail
    refine (toFormat_any _ _ _).mono ?_
    rintro e w' ⟨rfl, rfl⟩
    go_wp2_with fail
    refine (sWholeOf_in _ _ _ _ H.out).mono ?_
    rintro e w1 ⟨rfl, hb1⟩
    obtain ⟨hc1, hf1⟩ := bcell hb1
    have hz1 := hb1.size
    simp only [World.size_alloc] at hz1
    go_wp2_with fail
    refine (toFormat_any _ _ _).mono ?_
    rintro e w' ⟨rfl, rfl⟩
    go_wp2_with fail
    refine (WholeOf_in _ _ _ _ H.out).mono ?_
    rintro e w2 ⟨rfl, hb2⟩
    go_wp2
    go_ret
    exact ⟨rfl, (by repeat (first | exact Below.refl _ _ | refine balloc ?_ _ | refine bdrew ?_ | refine bdrewN ?_ _ | (refine bseq ?_ (by assumption))))⟩
  · have H := Lib.hid h
    clear h
    go_enter Try.func6, Try.ntmps6
    go_wp2_with fail
    refine (toFormat_any _ _ _).mono ?_
    rintro e w' ⟨rfl, rfl⟩
    go_wp2_with fail
    refine (sWholeOf_no _ _ _ _ H.out).mono ?_
    rintro e w1 ⟨rfl, hb1⟩
    obtain ⟨hc1, hf1⟩ := bcell hb1
    have hz1 := hb1.size
    simp only [World.size_alloc] at hz1
    go_wp2_with fail
    refine (toFormat_any _ _ _).mono ?_
    rintro e w' ⟨rfl, rfl⟩
    go_wp2_with fail
    refine (WholeOf_no _ _ _ _ H.out).mono ?_
    rintro e w2 ⟨rfl, hb2⟩
    go_wp2
    go_ret
    exact ⟨rfl, (by repeat (first | exact Below.refl _ _ | refine balloc ?_ _ | refine bdrew ?_ | refine bdrewN ?_ _ | (refine bseq ?_ (by assumption))))⟩

theorem FnExactSqrtStored_walk (a0 b0 a1 : Int) (w : World) (_wa0 : (Lit.int .i64 a0).wf = true) (_wb0 : (Lit.int .i64 b0).wf = true) (_wa1 : (Lit.int .i64 a1).wf = true) : Calls Try.prog 7 #[.agg #[.int .i64 a0, .int .i64 b0], .int .i64 a1] w fun e w' => e = .returned (.bool true) ∧ Below w.heap.size w w' := by
  by_cases h : Fit a0 b0 a1 ∧ 0 ≤ a1
  · obtain ⟨hf, n1⟩ := h
    obtain ⟨s, s0, s1, s2⟩ := exists_isqrt (a1 * 2 ^ b0.toNat) (Int.mul_nonneg n1 (by have := pow_pos' b0.toNat; omega))
    have H := Lib.hid hf
    have S1 := Lib.hid s1
    have S2 := Lib.hid s2
    clear hf s1 s2
    go_enter Try.func7, Try.ntmps7
    go_wp2_with fail
    refine (toFormat_any _ _ _).mono ?_
    rintro e w' ⟨rfl, rfl⟩
    go_wp2_with fail
    refine (sSqrtStored_in _ _ _ s _ H.out n1 s0 S1.out S2.out).mono ?_
    rintro e w1 ⟨rfl, hb1⟩
    obtain ⟨hc1, hf1⟩ := bcell hb1
    have hz1 := hb1.size
    simp only [World.size_alloc] at hz1
    go_wp2_with fail
    refine (toFormat_any _ _ _).mono ?_
    rintro e w' ⟨rfl, rfl⟩
    go_wp2_with fail
    refine (SqrtStored_in _ _ _ s _ H.out n1 s0 S1.out S2.out).mono ?_
    rintro e w2 ⟨rfl, hb2⟩
    go_wp2
    go_ret
    exact ⟨rfl, (by repeat (first | exact Below.refl _ _ | refine balloc ?_ _ | refine bdrew ?_ | refine bdrewN ?_ _ | (refine bseq ?_ (by assumption))))⟩
  · have H : Hid (¬ Fit a0 b0 a1 ∨ a1 < 0) := Lib.hid (by by_cases hf : Fit a0 b0 a1; exact .inr (by have : ¬ 0 ≤ a1 := fun h2 => h ⟨hf, h2⟩; omega); exact .inl hf)
    clear h
    go_enter Try.func7, Try.ntmps7
    go_wp2_with fail
    refine (toFormat_any _ _ _).mono ?_
    rintro e w' ⟨rfl, rfl⟩
    go_wp2_with fail
    refine (sSqrtStored_no _ _ _ _ H.out).mono ?_
    rintro e w1 ⟨rfl, hb1⟩
    obtain ⟨hc1, hf1⟩ := bcell hb1
    have hz1 := hb1.size
    simp only [World.size_alloc] at hz1
    go_wp2_with fail
    refine (toFormat_any _ _ _).mono ?_
    rintro e w' ⟨rfl, rfl⟩
    go_wp2_with fail
    refine (SqrtStored_no _ _ _ _ H.out).mono ?_
    rintro e w2 ⟨rfl, hb2⟩
    go_wp2
    go_ret
    exact ⟨rfl, (by repeat (first | exact Below.refl _ _ | refine balloc ?_ _ | refine bdrew ?_ | refine bdrewN ?_ _ | (refine bseq ?_ (by assumption))))⟩

end Go.Proofs.Ytffgekboieimhaa.K

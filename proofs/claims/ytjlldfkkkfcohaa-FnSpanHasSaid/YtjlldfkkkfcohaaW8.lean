/- The walks of the laws on the logarithm of 2, and the contracts of SpanHas. -/
import Derived.Test.YtjlldfkkkfcohaaW7
import Derived.Test.YtjlldfkkkfcohaaD4
namespace Go.Proofs.Ytjlldfkkkfcohaa.K
open Go.RowKit

theorem ret_bool {a b : Bool} (h : a = b) : Ending.returned (.bool a) = .returned (.bool b) := by rw [h]

theorem SpanHas_is (c : Bool) (l h n : Int) (w : World) (hc : decide (SV l h ∧ l ≤ n ∧ n ≤ h) = c) : Calls Try.prog 37 #[.agg #[.int .i64 l, .int .i64 h], .int .i64 n] w fun e w' => e = .returned (.bool c) ∧ Below w.heap.size w w' := by
  subst hc
  by_cases v : SV l h
  · by_cases h1 : l ≤ n
    · by_cases h2 : n ≤ h
      · have E : Hid (true = decide (SV l h ∧ l ≤ n ∧ n ≤ h)) := Lib.hid (decide_eq_true ⟨v, h1, h2⟩).symm
        have V := Lib.hid v
        clear v
        go_enter Try.func37, Try.ntmps37
        go_wp2_with fail
        refine (SpanValid_yes _ _ _ V.out).mono ?_
        rintro e w' ⟨rfl, rfl⟩
        go_wp2
        go_ret
        exact ⟨ret_bool E.out, (by repeat (first | exact Below.refl _ _ | refine balloc ?_ _ | refine bdrew ?_ | refine bdrewN ?_ _ | refine bset ?_ (by first | (simp; done) | (simp; omega)) _ | (refine bseq ?_ (by assumption)) | (refine bgrow ?_ (by assumption) (by omega))))⟩
      · have E : Hid (false = decide (SV l h ∧ l ≤ n ∧ n ≤ h)) := Lib.hid (decide_eq_false (fun x => h2 x.2.2)).symm
        have V := Lib.hid v
        have hd : decide (n ≤ h) = false := decide_eq_false h2
        clear v
        go_enter Try.func37, Try.ntmps37
        go_wp2_with fail
        refine (SpanValid_yes _ _ _ V.out).mono ?_
        rintro e w' ⟨rfl, rfl⟩
        go_wp2
        go_ret
        exact ⟨ret_bool E.out, (by repeat (first | exact Below.refl _ _ | refine balloc ?_ _ | refine bdrew ?_ | refine bdrewN ?_ _ | refine bset ?_ (by first | (simp; done) | (simp; omega)) _ | (refine bseq ?_ (by assumption)) | (refine bgrow ?_ (by assumption) (by omega))))⟩
    · have E : Hid (false = decide (SV l h ∧ l ≤ n ∧ n ≤ h)) := Lib.hid (decide_eq_false (fun x => h1 x.2.1)).symm
      have V := Lib.hid v
      have hd : decide (l ≤ n) = false := decide_eq_false h1
      clear v
      go_enter Try.func37, Try.ntmps37
      go_wp2_with fail
      refine (SpanValid_yes _ _ _ V.out).mono ?_
      rintro e w' ⟨rfl, rfl⟩
      go_wp2
      go_ret
      exact ⟨ret_bool E.out, (by repeat (first | exact Below.refl _ _ | refine balloc ?_ _ | refine bdrew ?_ | refine bdrewN ?_ _ | refine bset ?_ (by first | (simp; done) | (simp; omega)) _ | (refine bseq ?_ (by assumption)) | (refine bgrow ?_ (by assumption) (by omega))))⟩
  · have E : Hid (false = decide (SV l h ∧ l ≤ n ∧ n ≤ h)) := Lib.hid (decide_eq_false (fun x => v x.1)).symm
    have V := Lib.hid v
    clear v
    go_enter Try.func37, Try.ntmps37
    go_wp2_with fail
    refine (SpanValid_no _ _ _ V.out).mono ?_
    rintro e w' ⟨rfl, rfl⟩
    go_wp2
    go_ret
    exact ⟨ret_bool E.out, (by repeat (first | exact Below.refl _ _ | refine balloc ?_ _ | refine bdrew ?_ | refine bdrewN ?_ _ | refine bset ?_ (by first | (simp; done) | (simp; omega)) _ | (refine bseq ?_ (by assumption)) | (refine bgrow ?_ (by assumption) (by omega))))⟩
theorem sSpanHas_is (c : Bool) (l h n : Int) (w : World) (hc : decide (SV l h ∧ l ≤ n ∧ n ≤ h) = c) : Calls Try.prog 38 #[.agg #[.int .i64 l, .int .i64 h], .int .i64 n] w fun e w' => e = .returned (.bool c) ∧ Below w.heap.size w w' := by
  subst hc
  by_cases v : SV l h
  · by_cases h1 : l ≤ n ∧ n ≤ h
    · have E : Hid (true = decide (SV l h ∧ l ≤ n ∧ n ≤ h)) := Lib.hid (decide_eq_true ⟨v, h1⟩).symm
      have V := Lib.hid v
      obtain ⟨g1, g2⟩ := h1
      clear v
      go_enter Try.func38, Try.ntmps38
      go_wp2_with fail
      refine (sSpanValid_yes _ _ _ V.out).mono ?_
      rintro e w' ⟨rfl, rfl⟩
      go_wp2_with fail
      refine (l1In_yes _ _ _ _ g1 g2).mono ?_
      rintro e w' ⟨rfl, rfl⟩
      go_wp2
      go_ret
      exact ⟨ret_bool E.out, (by repeat (first | exact Below.refl _ _ | refine balloc ?_ _ | refine bdrew ?_ | refine bdrewN ?_ _ | refine bset ?_ (by first | (simp; done) | (simp; omega)) _ | (refine bseq ?_ (by assumption)) | (refine bgrow ?_ (by assumption) (by omega))))⟩
    · have E : Hid (false = decide (SV l h ∧ l ≤ n ∧ n ≤ h)) := Lib.hid (decide_eq_false (fun x => h1 x.2)).symm
      have V := Lib.hid v
      have H : Hid (n < l ∨ h < n) := Lib.hid (by omega)
      clear v h1
      go_enter Try.func38, Try.ntmps38
      go_wp2_with fail
      refine (sSpanValid_yes _ _ _ V.out).mono ?_
      rintro e w' ⟨rfl, rfl⟩
      go_wp2_with fail
      refine (l1In_no _ _ _ _ H.out).mono ?_
      rintro e w' ⟨rfl, rfl⟩
      go_wp2
      go_ret
      exact ⟨ret_bool E.out, (by repeat (first | exact Below.refl _ _ | refine balloc ?_ _ | refine bdrew ?_ | refine bdrewN ?_ _ | refine bset ?_ (by first | (simp; done) | (simp; omega)) _ | (refine bseq ?_ (by assumption)) | (refine bgrow ?_ (by assumption) (by omega))))⟩
  · have E : Hid (false = decide (SV l h ∧ l ≤ n ∧ n ≤ h)) := Lib.hid (decide_eq_false (fun x => v x.1)).symm
    have V := Lib.hid v
    clear v
    go_enter Try.func38, Try.ntmps38
    go_wp2_with fail
    refine (sSpanValid_no _ _ _ V.out).mono ?_
    rintro e w' ⟨rfl, rfl⟩
    go_wp2
    go_ret
    exact ⟨ret_bool E.out, (by repeat (first | exact Below.refl _ _ | refine balloc ?_ _ | refine bdrew ?_ | refine bdrewN ?_ _ | refine bset ?_ (by first | (simp; done) | (simp; omega)) _ | (refine bseq ?_ (by assumption)) | (refine bgrow ?_ (by assumption) (by omega))))⟩

theorem log_end : ∃ l u : Int, LL 8 = l ∧ LH 8 = u ∧ SV l u ∧ l ≤ 186065279 ∧ 186065280 ≤ u ∧ u - l ≤ 20 := ⟨LL 8, LH 8, rfl, rfl, by decide, by decide, by decide, by decide⟩

theorem FnExactLogTwoSpan_walk (w : World) : Calls Try.prog 9 #[] w fun e w' => e = .returned (.bool true) ∧ Below w.heap.size w w' := by
  obtain ⟨l, u, el, eu, _⟩ := log_end
  have I1 : Hid (∀ w, Calls Try.prog 28 #[] w fun e w' => e = .returned (.agg #[.int .i64 l, .int .i64 u]) ∧ Below w.heap.size w w') := Lib.hid fun w => by rw [← el, ← eu]; exact sLogTwoSpan_any w
  have I2 : Hid (∀ w, Calls Try.prog 29 #[] w fun e w' => e = .returned (.agg #[.int .i64 l, .int .i64 u]) ∧ Below w.heap.size w w') := Lib.hid fun w => by rw [← el, ← eu]; exact LogTwoSpan_any w
  clear el eu
  go_enter Try.func9, Try.ntmps9
  go_wp2_with fail
  refine (I1.out _).mono ?_
  rintro e w1 ⟨rfl, hb1⟩
  go_wp2_with fail
  refine (I2.out _).mono ?_
  rintro e w2 ⟨rfl, hb2⟩
  have Q2 := (Pair.new w1 l u 24).below hb2
  have P2 := Pair.new w2 l u 24
  have Q3 := Q2.alloc (.cells #[.int .i64 l, .int .i64 u] 24)
  have HB : Hid (Below w.heap.size w (w2.alloc (.cells #[.int .i64 l, .int .i64 u] 24))) := Lib.hid (balloc (bseq (balloc hb1 _) hb2) _)
  have hz := hb2.size
  simp only [World.size_alloc] at hz
  have hne : w2.heap.size ≠ w1.heap.size := by omega
  clear hb1 hb2 Q2
  obtain ⟨⟨c0, c1⟩, c2, c3⟩ := Q3.cells
  go_wp2_with fail
  refine (eqSpan_same _ _ _).mono ?_
  rintro e w' ⟨rfl, rfl⟩
  go_wp2
  go_ret
  exact ⟨rfl, balloc (balloc HB.out _) _⟩

set_option maxHeartbeats 1000000 in
theorem FnLogTwoSpan_walk (a0 : Option Addr) (len0 cap0 : Nat) (z0 : List Int) (w : World) (w0 : IsRow .u8 w a0 len0 cap0 z0) : Calls Try.prog 13 #[.slice a0 len0 cap0] w fun e w' => e = .returned (.bool true) ∧ Below w.heap.size w w' := by
  by_cases hlen : (1048576 : Int) < (len0 : Int)
  · go_enter Try.func13, Try.ntmps13
    go_wp2
    go_ret
    exact ⟨by first | rfl | (simp; done) | (simp; omega), Below.refl _ _⟩
  · clear w0
    obtain ⟨l, u, el, eu, sv, b1, b2, b3⟩ := log_end
    have I1 : Hid (∀ w, Calls Try.prog 28 #[] w fun e w' => e = .returned (.agg #[.int .i64 l, .int .i64 u]) ∧ Below w.heap.size w w') := Lib.hid fun w => by rw [← el, ← eu]; exact sLogTwoSpan_any w
    have I2 : Hid (∀ w, Calls Try.prog 29 #[] w fun e w' => e = .returned (.agg #[.int .i64 l, .int .i64 u]) ∧ Below w.heap.size w w') := Lib.hid fun w => by rw [← el, ← eu]; exact LogTwoSpan_any w
    have H1 : Hid (decide (SV l u ∧ l ≤ 186065279 ∧ 186065279 ≤ u) = true) := Lib.hid (decide_eq_true ⟨sv, b1, by omega⟩)
    have H2 : Hid (decide (SV l u ∧ l ≤ 186065280 ∧ 186065280 ≤ u) = true) := Lib.hid (decide_eq_true ⟨sv, by omega, b2⟩)
    have HV : Hid (decide (SV l u) = true) := Lib.hid (decide_eq_true sv)
    have bl : -1073741824 ≤ l ∧ l ≤ 1073741824 := sv.1
    have bu : -1073741824 ≤ u ∧ u ≤ 1073741824 := sv.2.1
    clear el eu sv
    go_enter Try.func13, Try.ntmps13
    go_wp2_with fail
    refine (I2.out _).mono ?_
    rintro e w1 ⟨rfl, hb1⟩
    have Q : Pair (w1.alloc (.cells #[.int .i64 l, .int .i64 u] 24)) w1.heap.size l u 24 := Pair.new w1 l u _
    have HB : Below w.heap.size w (w1.alloc (.cells #[.int .i64 l, .int .i64 u] 24)) := balloc hb1 _
    clear hb1
    go_wp2_with fail
    generalize w1.heap.size = N at *
    generalize w1.alloc (.cells #[.int .i64 l, .int .i64 u] 24) = W at *
    obtain ⟨⟨c0, c1⟩, c2, c3⟩ := Q.cells
    go_region_with (go_at_call 28; refine (I1.out _).mono ?_; rintro e w2 ⟨rfl, hb2⟩; have Q2 := Q.drew.below hb2; obtain ⟨⟨d0, d1⟩, d2, d3⟩ := Q2.cells; have HB2 := bseq (bdrew HB) hb2)
    all_goals
      clear c0 c1 c2 c3 hb2 Q HB
      go_wp2_with fail
      refine (SpanValid_is true _ _ _ HV.out).mono ?_
      rintro e w3 ⟨rfl, hb3⟩
      clear d0 d1 d2 d3
      have Q3 := Q2.below hb3
      obtain ⟨⟨c0, c1⟩, c2, c3⟩ := Q3.cells
      have HB3 := bseq HB2 hb3
      clear hb3 Q2 HB2
      go_wp2_with fail
      refine (SpanHas_is true _ _ _ _ H1.out).mono ?_
      rintro e w4 ⟨rfl, hb4⟩
      clear c0 c1 c2 c3
      have Q4 := Q3.below hb4
      obtain ⟨⟨c0, c1⟩, c2, c3⟩ := Q4.cells
      have HB4 := bseq HB3 hb4
      clear hb4 Q3 HB3
      go_wp2_with fail
      refine (SpanHas_is true _ _ _ _ H2.out).mono ?_
      rintro e w5 ⟨rfl, hb5⟩
      clear c0 c1 c2 c3
      have Q5 := Q4.below hb5
      obtain ⟨⟨c0, c1⟩, c2, c3⟩ := Q5.cells
      have HB5 := bseq HB4 hb5
      clear hb5 Q4 HB4
      go_wp2_with fail
      refine (alive_any' _).mono ?_
      rintro e w' ⟨rfl, rfl⟩
      go_wp2
      go_ret
      exact ⟨by first | rfl | (simp; done) | (simp; omega), HB5⟩

end Go.Proofs.Ytjlldfkkkfcohaa.K

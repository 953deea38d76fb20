/- Contracts of the functions on spans. -/
import Derived.Test.YtjlldfkkkfcohaaFmt
namespace Go.Proofs.Ytjlldfkkkfcohaa.K
open Go.RowKit

/-- a valid span -/
def SV (l h : Int) : Prop := (-1073741824 ≤ l ∧ l ≤ 1073741824) ∧ (-1073741824 ≤ h ∧ h ≤ 1073741824) ∧ l ≤ h
instance (l h : Int) : Decidable (SV l h) := by unfold SV; infer_instance
/-- a span, if it is valid, and otherwise the zero value -/
def gl (l h : Int) : Int := if SV l h then l else 0
def gh (l h : Int) : Int := if SV l h then h else 0
def gb (l h : Int) : Bool := decide (SV l h)
theorem good_yes {l h : Int} (v : SV l h) : l = gl l h ∧ h = gh l h ∧ true = gb l h := ⟨by unfold gl; rw [if_pos v], by unfold gh; rw [if_pos v], by unfold gb; exact (decide_eq_true v).symm⟩
theorem good_no {l h : Int} (v : ¬ SV l h) : 0 = gl l h ∧ 0 = gh l h ∧ false = gb l h := ⟨by unfold gl; rw [if_neg v], by unfold gh; rw [if_neg v], by unfold gb; exact (decide_eq_false v).symm⟩
def mx (a b : Int) : Int := if a < b then b else a
def mn (a b : Int) : Int := if b < a then b else a
theorem ret_span {a b l h : Int} {c d : Bool} (h1 : a = l) (h2 : b = h) (h3 : c = d) : Ending.returned (.tuple #[.agg #[.int .i64 a, .int .i64 b], .bool c]) = .returned (.tuple #[.agg #[.int .i64 l, .int .i64 h], .bool d]) := by rw [h1, h2, h3]

theorem eqSpan_same (a b : Int) (w : World) : Calls Try.prog 17 #[.agg #[.int .i64 a, .int .i64 b], .agg #[.int .i64 a, .int .i64 b]] w fun e w' => e = .returned (.bool true) ∧
    (w.alloc (.cells #[.int .i64 a, .int .i64 b] 24)).alloc (.cells #[.int .i64 a, .int .i64 b] 24) = w' := by
  go_enter Try.func17, Try.ntmps17
  go_wp2
  go_ret
  exact ⟨rfl, rfl⟩

theorem SpanValid_yes (l h : Int) (w : World) (v : SV l h) : Calls Try.prog 33 #[.agg #[.int .i64 l, .int .i64 h]] w fun e w' => e = .returned (.bool true) ∧ w.alloc (.cells #[.int .i64 l, .int .i64 h] 24) = w' := by
  obtain ⟨⟨h1, h2⟩, ⟨h3, h4⟩, h5⟩ := v
  go_enter Try.func33, Try.ntmps33
  go_wp2
  go_ret
  exact ⟨rfl, rfl⟩
theorem SpanValid_no (l h : Int) (w : World) (v : ¬ SV l h) : Calls Try.prog 33 #[.agg #[.int .i64 l, .int .i64 h]] w fun e w' => e = .returned (.bool false) ∧ w.alloc (.cells #[.int .i64 l, .int .i64 h] 24) = w' := by
  unfold SV at v
  by_cases h0 : -1073741824 ≤ l
  · by_cases h1 : l ≤ 1073741824
    · by_cases h2 : -1073741824 ≤ h
      · by_cases h3 : h ≤ 1073741824
        · have hd : decide (l ≤ h) = false := decide_eq_false (by omega)
          clear v
          go_enter Try.func33, Try.ntmps33
          go_wp2
          go_ret
          exact ⟨rfl, rfl⟩
        · have hd : decide (h ≤ 1073741824) = false := decide_eq_false h3
          clear v
          go_enter Try.func33, Try.ntmps33
          go_wp2
          go_ret
          exact ⟨rfl, rfl⟩
      · have hd : decide (-1073741824 ≤ h) = false := decide_eq_false h2
        clear v
        go_enter Try.func33, Try.ntmps33
        go_wp2
        go_ret
        exact ⟨rfl, rfl⟩
    · have hd : decide (l ≤ 1073741824) = false := decide_eq_false h1
      clear v
      go_enter Try.func33, Try.ntmps33
      go_wp2
      go_ret
      exact ⟨rfl, rfl⟩
  · have hd : decide (-1073741824 ≤ l) = false := decide_eq_false h0
    clear v
    go_enter Try.func33, Try.ntmps33
    go_wp2
    go_ret
    exact ⟨rfl, rfl⟩

theorem sSpanValid_yes (l h : Int) (w : World) (v : SV l h) : Calls Try.prog 34 #[.agg #[.int .i64 l, .int .i64 h]] w fun e w' => e = .returned (.bool true) ∧ w.alloc (.cells #[.int .i64 l, .int .i64 h] 24) = w' := by
  obtain ⟨⟨h1, h2⟩, ⟨h3, h4⟩, h5⟩ := v
  go_enter Try.func34, Try.ntmps34
  go_wp2
  go_ret
  exact ⟨rfl, rfl⟩
theorem sSpanValid_no (l h : Int) (w : World) (v : ¬ SV l h) : Calls Try.prog 34 #[.agg #[.int .i64 l, .int .i64 h]] w fun e w' => e = .returned (.bool false) ∧ w.alloc (.cells #[.int .i64 l, .int .i64 h] 24) = w' := by
  unfold SV at v
  by_cases h0 : -1073741824 ≤ l
  · by_cases h1 : l ≤ 1073741824
    · by_cases h2 : -1073741824 ≤ h
      · by_cases h3 : h ≤ 1073741824
        · have hd : decide (l ≤ h) = false := decide_eq_false (by omega)
          clear v
          go_enter Try.func34, Try.ntmps34
          go_wp2
          go_ret
          exact ⟨rfl, rfl⟩
        · have hd : decide (h ≤ 1073741824) = false := decide_eq_false h3
          clear v
          go_enter Try.func34, Try.ntmps34
          go_wp2
          go_ret
          exact ⟨rfl, rfl⟩
      · have hd : decide (-1073741824 ≤ h) = false := decide_eq_false h2
        clear v
        go_enter Try.func34, Try.ntmps34
        go_wp2
        go_ret
        exact ⟨rfl, rfl⟩
    · have hd : decide (l ≤ 1073741824) = false := decide_eq_false h1
      clear v
      go_enter Try.func34, Try.ntmps34
      go_wp2
      go_ret
      exact ⟨rfl, rfl⟩
  · have hd : decide (-1073741824 ≤ l) = false := decide_eq_false h0
    clear v
    go_enter Try.func34, Try.ntmps34
    go_wp2
    go_ret
    exact ⟨rfl, rfl⟩

theorem checked_yes (l h : Int) (w : World) (v : SV l h) : Calls Try.prog 40 #[.agg #[.int .i64 l, .int .i64 h]] w fun e w' => e = .returned (.tuple #[.agg #[.int .i64 l, .int .i64 h], .bool true]) ∧ Below w.heap.size w w' := by
  have V := Lib.hid v
  clear v
  go_enter Try.func40, Try.ntmps40
  go_wp2_with (first | (go_at_call 33; refine (SpanValid_yes _ _ _ V.out).mono ?_; rintro e w' ⟨rfl, rfl⟩))
  refine bodyPost_ret (v := .tuple #[.agg #[.int .i64 l, .int .i64 h], .bool true]) (by simp [results, Try.results40, go_sem]) rfl ⟨rfl, (by repeat (first | exact Below.refl _ _ | refine balloc ?_ _ | refine bdrew ?_ | refine bdrewN ?_ _ | refine bset ?_ (by first | (simp; done) | (simp; omega)) _ | (refine bseq ?_ (by assumption)) | (refine bgrow ?_ (by assumption) (by omega))))⟩
theorem checked_no (l h : Int) (w : World) (v : ¬ SV l h) : Calls Try.prog 40 #[.agg #[.int .i64 l, .int .i64 h]] w fun e w' => e = .returned (.tuple #[.agg #[.int .i64 0, .int .i64 0], .bool false]) ∧ Below w.heap.size w w' := by
  have V := Lib.hid v
  clear v
  go_enter Try.func40, Try.ntmps40
  go_wp2_with (first | (go_at_call 33; refine (SpanValid_no _ _ _ V.out).mono ?_; rintro e w' ⟨rfl, rfl⟩))
  refine bodyPost_ret (v := .tuple #[.agg #[.int .i64 0, .int .i64 0], .bool false]) (by simp [results, Try.results40, go_sem]) rfl ⟨rfl, (by repeat (first | exact Below.refl _ _ | refine balloc ?_ _ | refine bdrew ?_ | refine bdrewN ?_ _ | refine bset ?_ (by first | (simp; done) | (simp; omega)) _ | (refine bseq ?_ (by assumption)) | (refine bgrow ?_ (by assumption) (by omega))))⟩
theorem checked_any (l h : Int) (w : World) : Calls Try.prog 40 #[.agg #[.int .i64 l, .int .i64 h]] w fun e w' => e = .returned (.tuple #[.agg #[.int .i64 (gl l h), .int .i64 (gh l h)], .bool (gb l h)]) ∧ Below w.heap.size w w' := by
  by_cases v : SV l h
  · exact (checked_yes l h w v).mono fun e w' ⟨he, hb⟩ => ⟨he.trans (ret_span (good_yes v).1 (good_yes v).2.1 (good_yes v).2.2), hb⟩
  · exact (checked_no l h w v).mono fun e w' ⟨he, hb⟩ => ⟨he.trans (ret_span (good_no v).1 (good_no v).2.1 (good_no v).2.2), hb⟩

theorem l7Good_yes (l h : Int) (w : World) (v : SV l h) : Calls Try.prog 39 #[.agg #[.int .i64 l, .int .i64 h]] w fun e w' => e = .returned (.tuple #[.agg #[.int .i64 l, .int .i64 h], .bool true]) ∧ Below w.heap.size w w' := by
  have V := Lib.hid v
  clear v
  go_enter Try.func39, Try.ntmps39
  go_wp2_with (first | (go_at_call 34; refine (sSpanValid_yes _ _ _ V.out).mono ?_; rintro e w' ⟨rfl, rfl⟩))
  refine bodyPost_ret (v := .tuple #[.agg #[.int .i64 l, .int .i64 h], .bool true]) (by simp [results, Try.results39, go_sem]) rfl ⟨rfl, (by repeat (first | exact Below.refl _ _ | refine balloc ?_ _ | refine bdrew ?_ | refine bdrewN ?_ _ | refine bset ?_ (by first | (simp; done) | (simp; omega)) _ | (refine bseq ?_ (by assumption)) | (refine bgrow ?_ (by assumption) (by omega))))⟩
theorem l7Good_no (l h : Int) (w : World) (v : ¬ SV l h) : Calls Try.prog 39 #[.agg #[.int .i64 l, .int .i64 h]] w fun e w' => e = .returned (.tuple #[.agg #[.int .i64 0, .int .i64 0], .bool false]) ∧ Below w.heap.size w w' := by
  have V := Lib.hid v
  clear v
  go_enter Try.func39, Try.ntmps39
  go_wp2_with (first | (go_at_call 34; refine (sSpanValid_no _ _ _ V.out).mono ?_; rintro e w' ⟨rfl, rfl⟩))
  refine bodyPost_ret (v := .tuple #[.agg #[.int .i64 0, .int .i64 0], .bool false]) (by simp [results, Try.results39, go_sem]) rfl ⟨rfl, (by repeat (first | exact Below.refl _ _ | refine balloc ?_ _ | refine bdrew ?_ | refine bdrewN ?_ _ | refine bset ?_ (by first | (simp; done) | (simp; omega)) _ | (refine bseq ?_ (by assumption)) | (refine bgrow ?_ (by assumption) (by omega))))⟩
theorem l7Good_any (l h : Int) (w : World) : Calls Try.prog 39 #[.agg #[.int .i64 l, .int .i64 h]] w fun e w' => e = .returned (.tuple #[.agg #[.int .i64 (gl l h), .int .i64 (gh l h)], .bool (gb l h)]) ∧ Below w.heap.size w w' := by
  by_cases v : SV l h
  · exact (l7Good_yes l h w v).mono fun e w' ⟨he, hb⟩ => ⟨he.trans (ret_span (good_yes v).1 (good_yes v).2.1 (good_yes v).2.2), hb⟩
  · exact (l7Good_no l h w v).mono fun e w' ⟨he, hb⟩ => ⟨he.trans (ret_span (good_no v).1 (good_no v).2.1 (good_no v).2.2), hb⟩

theorem SpanNeg_in (a b : Int) (w : World) (v : SV a b) : Calls Try.prog 16 #[.agg #[.int .i64 a, .int .i64 b]] w fun e w' => e = .returned (.agg #[.int .i64 (-b), .int .i64 (-a)]) ∧ Below w.heap.size w w' := by
  have V := Lib.hid v
  obtain ⟨⟨h1, h2⟩, ⟨h3, h4⟩, h5⟩ := v
  go_enter Try.func16, Try.ntmps16
  go_wp2_with (first | (go_at_call 33; refine (SpanValid_yes _ _ _ V.out).mono ?_; rintro e w' ⟨rfl, rfl⟩))
  refine bodyPost_ret (v := .agg #[.int .i64 (-b), .int .i64 (-a)]) (by simp [results, Try.results16, go_sem]) rfl ⟨rfl, (by repeat (first | exact Below.refl _ _ | refine balloc ?_ _ | refine bdrew ?_ | refine bdrewN ?_ _ | refine bset ?_ (by first | (simp; done) | (simp; omega)) _ | (refine bseq ?_ (by assumption)) | (refine bgrow ?_ (by assumption) (by omega))))⟩
theorem SpanNeg_no (a b : Int) (w : World) (v : ¬ SV a b) : Calls Try.prog 16 #[.agg #[.int .i64 a, .int .i64 b]] w fun e w' => e = .returned (.agg #[.int .i64 0, .int .i64 0]) ∧ Below w.heap.size w w' := by
  have V := Lib.hid v
  clear v
  go_enter Try.func16, Try.ntmps16
  go_wp2_with (first | (go_at_call 33; refine (SpanValid_no _ _ _ V.out).mono ?_; rintro e w' ⟨rfl, rfl⟩))
  refine bodyPost_ret (v := .agg #[.int .i64 0, .int .i64 0]) (by simp [results, Try.results16, go_sem]) rfl ⟨rfl, (by repeat (first | exact Below.refl _ _ | refine balloc ?_ _ | refine bdrew ?_ | refine bdrewN ?_ _ | refine bset ?_ (by first | (simp; done) | (simp; omega)) _ | (refine bseq ?_ (by assumption)) | (refine bgrow ?_ (by assumption) (by omega))))⟩

theorem SpanAdd_in (a b c d : Int) (w : World) (v : SV a b) (u : SV c d) : Calls Try.prog 19 #[.agg #[.int .i64 a, .int .i64 b], .agg #[.int .i64 c, .int .i64 d]] w fun e w' => e = .returned (.tuple #[.agg #[.int .i64 (gl (a + c) (b + d)), .int .i64 (gh (a + c) (b + d))], .bool (gb (a + c) (b + d))]) ∧ Below w.heap.size w w' := by
  have V := Lib.hid v
  have U := Lib.hid u
  obtain ⟨⟨h1, h2⟩, ⟨h3, h4⟩, h5⟩ := v
  obtain ⟨⟨k1, k2⟩, ⟨k3, k4⟩, k5⟩ := u
  go_enter Try.func19, Try.ntmps19
  go_wp2_with fail
  refine (SpanValid_yes _ _ _ V.out).mono ?_
  rintro e w' ⟨rfl, rfl⟩
  go_wp2_with fail
  refine (SpanValid_yes _ _ _ U.out).mono ?_
  rintro e w' ⟨rfl, rfl⟩
  go_wp2_with fail
  refine (checked_any _ _ _).mono ?_
  rintro e w1 ⟨rfl, hb1⟩
  obtain ⟨hc1, hf1⟩ := bcell hb1
  have hz1 := hb1.size
  simp only [World.size_alloc] at hz1
  have q0 : w1.cell? ⟨w.heap.size + 1 + 1, 0, none⟩ = some (.int .i64 0) := (hc1 (w.heap.size + 1 + 1) 0 (by simp only [World.size_alloc]; omega)).trans (by go_simp)
  have q1 : w1.cell? ⟨w.heap.size + 1 + 1, 1, none⟩ = some (.int .i64 0) := (hc1 (w.heap.size + 1 + 1) 1 (by simp only [World.size_alloc]; omega)).trans (by go_simp)
  go_wp2
  refine bodyPost_ret (v := .tuple #[.agg #[.int .i64 (gl (a + c) (b + d)), .int .i64 (gh (a + c) (b + d))], .bool (gb (a + c) (b + d))]) (by simp [results, Try.results19, go_sem, q0, q1]) rfl ⟨rfl, (by repeat (first | exact Below.refl _ _ | refine balloc ?_ _ | refine bdrew ?_ | refine bdrewN ?_ _ | refine bset ?_ (by first | (simp; done) | (simp; omega)) _ | (refine bseq ?_ (by assumption)) | (refine bgrow ?_ (by assumption) (by omega))))⟩
theorem SpanAdd_no (a b c d : Int) (w : World) (v : ¬ SV a b ∨ ¬ SV c d) : Calls Try.prog 19 #[.agg #[.int .i64 a, .int .i64 b], .agg #[.int .i64 c, .int .i64 d]] w fun e w' => e = .returned (.tuple #[.agg #[.int .i64 0, .int .i64 0], .bool false]) ∧ Below w.heap.size w w' := by
  by_cases v1 : SV a b
  · have V := Lib.hid v1
    have U : Hid (¬ SV c d) := Lib.hid (v.resolve_left (fun h => h v1))
    clear v v1
    go_enter Try.func19, Try.ntmps19
    go_wp2_with fail
    refine (SpanValid_yes _ _ _ V.out).mono ?_
    rintro e w' ⟨rfl, rfl⟩
    go_wp2_with fail
    refine (SpanValid_no _ _ _ U.out).mono ?_
    rintro e w' ⟨rfl, rfl⟩
    go_wp2
    refine bodyPost_ret (v := .tuple #[.agg #[.int .i64 0, .int .i64 0], .bool false]) (by simp [results, Try.results19, go_sem]) rfl ⟨rfl, (by repeat (first | exact Below.refl _ _ | refine balloc ?_ _ | refine bdrew ?_ | refine bdrewN ?_ _ | refine bset ?_ (by first | (simp; done) | (simp; omega)) _ | (refine bseq ?_ (by assumption)) | (refine bgrow ?_ (by assumption) (by omega))))⟩
  · have V := Lib.hid v1
    clear v v1
    go_enter Try.func19, Try.ntmps19
    go_wp2_with fail
    refine (SpanValid_no _ _ _ V.out).mono ?_
    rintro e w' ⟨rfl, rfl⟩
    go_wp2
    refine bodyPost_ret (v := .tuple #[.agg #[.int .i64 0, .int .i64 0], .bool false]) (by simp [results, Try.results19, go_sem]) rfl ⟨rfl, (by repeat (first | exact Below.refl _ _ | refine balloc ?_ _ | refine bdrew ?_ | refine bdrewN ?_ _ | refine bset ?_ (by first | (simp; done) | (simp; omega)) _ | (refine bseq ?_ (by assumption)) | (refine bgrow ?_ (by assumption) (by omega))))⟩

theorem SpanMeet_in (a b c d : Int) (w : World) (v : SV a b) (u : SV c d) : Calls Try.prog 21 #[.agg #[.int .i64 a, .int .i64 b], .agg #[.int .i64 c, .int .i64 d]] w fun e w' => e = .returned (.tuple #[.agg #[.int .i64 (gl (mx a c) (mn b d)), .int .i64 (gh (mx a c) (mn b d))], .bool (gb (mx a c) (mn b d))]) ∧ Below w.heap.size w w' := by
  have V := Lib.hid v
  have U := Lib.hid u
  obtain ⟨⟨h1, h2⟩, ⟨h3, h4⟩, h5⟩ := v
  obtain ⟨⟨k1, k2⟩, ⟨k3, k4⟩, k5⟩ := u
  have e3 : (if a < c then c else a) = mx a c := rfl
  have e4 : (if d < b then d else b) = mn b d := rfl
  go_enter Try.func21, Try.ntmps21
  go_wp2_with fail
  refine (SpanValid_yes _ _ _ V.out).mono ?_
  rintro e w' ⟨rfl, rfl⟩
  go_wp2_with fail
  refine (SpanValid_yes _ _ _ U.out).mono ?_
  rintro e w' ⟨rfl, rfl⟩
  go_wp2_with fail
  refine (checked_any _ _ _).mono ?_
  rintro e w1 ⟨rfl, hb1⟩
  obtain ⟨hc1, hf1⟩ := bcell hb1
  have hz1 := hb1.size
  simp only [World.size_alloc] at hz1
  have q0 : w1.cell? ⟨w.heap.size + 1 + 1, 0, none⟩ = some (.int .i64 0) := (hc1 (w.heap.size + 1 + 1) 0 (by simp only [World.size_alloc]; omega)).trans (by go_simp)
  have q1 : w1.cell? ⟨w.heap.size + 1 + 1, 1, none⟩ = some (.int .i64 0) := (hc1 (w.heap.size + 1 + 1) 1 (by simp only [World.size_alloc]; omega)).trans (by go_simp)
  go_wp2
  refine bodyPost_ret (v := .tuple #[.agg #[.int .i64 (gl (mx a c) (mn b d)), .int .i64 (gh (mx a c) (mn b d))], .bool (gb (mx a c) (mn b d))]) (by simp [results, Try.results21, go_sem, q0, q1]) rfl ⟨rfl, (by repeat (first | exact Below.refl _ _ | refine balloc ?_ _ | refine bdrew ?_ | refine bdrewN ?_ _ | refine bset ?_ (by first | (simp; done) | (simp; omega)) _ | (refine bseq ?_ (by assumption)) | (refine bgrow ?_ (by assumption) (by omega))))⟩
theorem SpanMeet_no (a b c d : Int) (w : World) (v : ¬ SV a b ∨ ¬ SV c d) : Calls Try.prog 21 #[.agg #[.int .i64 a, .int .i64 b], .agg #[.int .i64 c, .int .i64 d]] w fun e w' => e = .returned (.tuple #[.agg #[.int .i64 0, .int .i64 0], .bool false]) ∧ Below w.heap.size w w' := by
  by_cases v1 : SV a b
  · have V := Lib.hid v1
    have U : Hid (¬ SV c d) := Lib.hid (v.resolve_left (fun h => h v1))
    clear v v1
    go_enter Try.func21, Try.ntmps21
    go_wp2_with fail
    refine (SpanValid_yes _ _ _ V.out).mono ?_
    rintro e w' ⟨rfl, rfl⟩
    go_wp2_with fail
    refine (SpanValid_no _ _ _ U.out).mono ?_
    rintro e w' ⟨rfl, rfl⟩
    go_wp2
    refine bodyPost_ret (v := .tuple #[.agg #[.int .i64 0, .int .i64 0], .bool false]) (by simp [results, Try.results21, go_sem]) rfl ⟨rfl, (by repeat (first | exact Below.refl _ _ | refine balloc ?_ _ | refine bdrew ?_ | refine bdrewN ?_ _ | refine bset ?_ (by first | (simp; done) | (simp; omega)) _ | (refine bseq ?_ (by assumption)) | (refine bgrow ?_ (by assumption) (by omega))))⟩
  · have V := Lib.hid v1
    clear v v1
    go_enter Try.func21, Try.ntmps21
    go_wp2_with fail
    refine (SpanValid_no _ _ _ V.out).mono ?_
    rintro e w' ⟨rfl, rfl⟩
    go_wp2
    refine bodyPost_ret (v := .tuple #[.agg #[.int .i64 0, .int .i64 0], .bool false]) (by simp [results, Try.results21, go_sem]) rfl ⟨rfl, (by repeat (first | exact Below.refl _ _ | refine balloc ?_ _ | refine bdrew ?_ | refine bdrewN ?_ _ | refine bset ?_ (by first | (simp; done) | (simp; omega)) _ | (refine bseq ?_ (by assumption)) | (refine bgrow ?_ (by assumption) (by omega))))⟩

theorem sSpanNeg_in (a b : Int) (w : World) (v : SV a b) : Calls Try.prog 14 #[.agg #[.int .i64 a, .int .i64 b]] w fun e w' => e = .returned (.agg #[.int .i64 (-b), .int .i64 (-a)]) ∧ Below w.heap.size w w' := by
  have V := Lib.hid v
  obtain ⟨⟨h1, h2⟩, ⟨h3, h4⟩, h5⟩ := v
  go_enter Try.func14, Try.ntmps14
  go_wp2_with (first | (go_at_call 34; refine (sSpanValid_yes _ _ _ V.out).mono ?_; rintro e w' ⟨rfl, rfl⟩))
  refine bodyPost_ret (v := .agg #[.int .i64 (-b), .int .i64 (-a)]) (by simp [results, Try.results14, go_sem]) rfl ⟨rfl, (by repeat (first | exact Below.refl _ _ | refine balloc ?_ _ | refine bdrew ?_ | refine bdrewN ?_ _ | refine bset ?_ (by first | (simp; done) | (simp; omega)) _ | (refine bseq ?_ (by assumption)) | (refine bgrow ?_ (by assumption) (by omega))))⟩
theorem sSpanNeg_no (a b : Int) (w : World) (v : ¬ SV a b) : Calls Try.prog 14 #[.agg #[.int .i64 a, .int .i64 b]] w fun e w' => e = .returned (.agg #[.int .i64 0, .int .i64 0]) ∧ Below w.heap.size w w' := by
  have V := Lib.hid v
  clear v
  go_enter Try.func14, Try.ntmps14
  go_wp2_with (first | (go_at_call 34; refine (sSpanValid_no _ _ _ V.out).mono ?_; rintro e w' ⟨rfl, rfl⟩))
  refine bodyPost_ret (v := .agg #[.int .i64 0, .int .i64 0]) (by simp [results, Try.results14, go_sem]) rfl ⟨rfl, (by repeat (first | exact Below.refl _ _ | refine balloc ?_ _ | refine bdrew ?_ | refine bdrewN ?_ _ | refine bset ?_ (by first | (simp; done) | (simp; omega)) _ | (refine bseq ?_ (by assumption)) | (refine bgrow ?_ (by assumption) (by omega))))⟩

theorem sSpanAdd_in (a b c d : Int) (w : World) (v : SV a b) (u : SV c d) : Calls Try.prog 18 #[.agg #[.int .i64 a, .int .i64 b], .agg #[.int .i64 c, .int .i64 d]] w fun e w' => e = .returned (.tuple #[.agg #[.int .i64 (gl (a + c) (b + d)), .int .i64 (gh (a + c) (b + d))], .bool (gb (a + c) (b + d))]) ∧ Below w.heap.size w w' := by
  have V := Lib.hid v
  have U := Lib.hid u
  obtain ⟨⟨h1, h2⟩, ⟨h3, h4⟩, h5⟩ := v
  obtain ⟨⟨k1, k2⟩, ⟨k3, k4⟩, k5⟩ := u
  go_enter Try.func18, Try.ntmps18
  go_wp2_with fail
  refine (sSpanValid_yes _ _ _ V.out).mono ?_
  rintro e w' ⟨rfl, rfl⟩
  go_wp2_with fail
  refine (sSpanValid_yes _ _ _ U.out).mono ?_
  rintro e w' ⟨rfl, rfl⟩
  go_wp2_with fail
  refine (l7Good_any _ _ _).mono ?_
  rintro e w1 ⟨rfl, hb1⟩
  obtain ⟨hc1, hf1⟩ := bcell hb1
  have hz1 := hb1.size
  simp only [World.size_alloc] at hz1
  have q0 : w1.cell? ⟨w.heap.size + 1 + 1, 0, none⟩ = some (.int .i64 0) := (hc1 (w.heap.size + 1 + 1) 0 (by simp only [World.size_alloc]; omega)).trans (by go_simp)
  have q1 : w1.cell? ⟨w.heap.size + 1 + 1, 1, none⟩ = some (.int .i64 0) := (hc1 (w.heap.size + 1 + 1) 1 (by simp only [World.size_alloc]; omega)).trans (by go_simp)
  go_wp2
  refine bodyPost_ret (v := .tuple #[.agg #[.int .i64 (gl (a + c) (b + d)), .int .i64 (gh (a + c) (b + d))], .bool (gb (a + c) (b + d))]) (by simp [results, Try.results18, go_sem, q0, q1]) rfl ⟨rfl, (by repeat (first | exact Below.refl _ _ | refine balloc ?_ _ | refine bdrew ?_ | refine bdrewN ?_ _ | refine bset ?_ (by first | (simp; done) | (simp; omega)) _ | (refine bseq ?_ (by assumption)) | (refine bgrow ?_ (by assumption) (by omega))))⟩
theorem sSpanAdd_no (a b c d : Int) (w : World) (v : ¬ SV a b ∨ ¬ SV c d) : Calls Try.prog 18 #[.agg #[.int .i64 a, .int .i64 b], .agg #[.int .i64 c, .int .i64 d]] w fun e w' => e = .returned (.tuple #[.agg #[.int .i64 0, .int .i64 0], .bool false]) ∧ Below w.heap.size w w' := by
  by_cases v1 : SV a b
  · have V := Lib.hid v1
    have U : Hid (¬ SV c d) := Lib.hid (v.resolve_left (fun h => h v1))
    clear v v1
    go_enter Try.func18, Try.ntmps18
    go_wp2_with fail
    refine (sSpanValid_yes _ _ _ V.out).mono ?_
    rintro e w' ⟨rfl, rfl⟩
    go_wp2_with fail
    refine (sSpanValid_no _ _ _ U.out).mono ?_
    rintro e w' ⟨rfl, rfl⟩
    go_wp2
    refine bodyPost_ret (v := .tuple #[.agg #[.int .i64 0, .int .i64 0], .bool false]) (by simp [results, Try.results18, go_sem]) rfl ⟨rfl, (by repeat (first | exact Below.refl _ _ | refine balloc ?_ _ | refine bdrew ?_ | refine bdrewN ?_ _ | refine bset ?_ (by first | (simp; done) | (simp; omega)) _ | (refine bseq ?_ (by assumption)) | (refine bgrow ?_ (by assumption) (by omega))))⟩
  · have V := Lib.hid v1
    clear v v1
    go_enter Try.func18, Try.ntmps18
    go_wp2_with fail
    refine (sSpanValid_no _ _ _ V.out).mono ?_
    rintro e w' ⟨rfl, rfl⟩
    go_wp2
    refine bodyPost_ret (v := .tuple #[.agg #[.int .i64 0, .int .i64 0], .bool false]) (by simp [results, Try.results18, go_sem]) rfl ⟨rfl, (by repeat (first | exact Below.refl _ _ | refine balloc ?_ _ | refine bdrew ?_ | refine bdrewN ?_ _ | refine bset ?_ (by first | (simp; done) | (simp; omega)) _ | (refine bseq ?_ (by assumption)) | (refine bgrow ?_ (by assumption) (by omega))))⟩

theorem sSpanMeet_in (a b c d : Int) (w : World) (v : SV a b) (u : SV c d) : Calls Try.prog 20 #[.agg #[.int .i64 a, .int .i64 b], .agg #[.int .i64 c, .int .i64 d]] w fun e w' => e = .returned (.tuple #[.agg #[.int .i64 (gl (mx a c) (mn b d)), .int .i64 (gh (mx a c) (mn b d))], .bool (gb (mx a c) (mn b d))]) ∧ Below w.heap.size w w' := by
  have V := Lib.hid v
  have U := Lib.hid u
  obtain ⟨⟨h1, h2⟩, ⟨h3, h4⟩, h5⟩ := v
  obtain ⟨⟨k1, k2⟩, ⟨k3, k4⟩, k5⟩ := u
  have e3 : (if a < c then c else a) = mx a c := rfl
  have e4 : (if d < b then d else b) = mn b d := rfl
  go_enter Try.func20, Try.ntmps20
  go_wp2_with fail
  refine (sSpanValid_yes _ _ _ V.out).mono ?_
  rintro e w' ⟨rfl, rfl⟩
  go_wp2_with fail
  refine (sSpanValid_yes _ _ _ U.out).mono ?_
  rintro e w' ⟨rfl, rfl⟩
  go_wp2_with fail
  refine (l7Good_any _ _ _).mono ?_
  rintro e w1 ⟨rfl, hb1⟩
  obtain ⟨hc1, hf1⟩ := bcell hb1
  have hz1 := hb1.size
  simp only [World.size_alloc] at hz1
  have q0 : w1.cell? ⟨w.heap.size + 1 + 1, 0, none⟩ = some (.int .i64 0) := (hc1 (w.heap.size + 1 + 1) 0 (by simp only [World.size_alloc]; omega)).trans (by go_simp)
  have q1 : w1.cell? ⟨w.heap.size + 1 + 1, 1, none⟩ = some (.int .i64 0) := (hc1 (w.heap.size + 1 + 1) 1 (by simp only [World.size_alloc]; omega)).trans (by go_simp)
  go_wp2
  refine bodyPost_ret (v := .tuple #[.agg #[.int .i64 (gl (mx a c) (mn b d)), .int .i64 (gh (mx a c) (mn b d))], .bool (gb (mx a c) (mn b d))]) (by simp [results, Try.results20, go_sem, q0, q1]) rfl ⟨rfl, (by repeat (first | exact Below.refl _ _ | refine balloc ?_ _ | refine bdrew ?_ | refine bdrewN ?_ _ | refine bset ?_ (by first | (simp; done) | (simp; omega)) _ | (refine bseq ?_ (by assumption)) | (refine bgrow ?_ (by assumption) (by omega))))⟩
theorem sSpanMeet_no (a b c d : Int) (w : World) (v : ¬ SV a b ∨ ¬ SV c d) : Calls Try.prog 20 #[.agg #[.int .i64 a, .int .i64 b], .agg #[.int .i64 c, .int .i64 d]] w fun e w' => e = .returned (.tuple #[.agg #[.int .i64 0, .int .i64 0], .bool false]) ∧ Below w.heap.size w w' := by
  by_cases v1 : SV a b
  · have V := Lib.hid v1
    have U : Hid (¬ SV c d) := Lib.hid (v.resolve_left (fun h => h v1))
    clear v v1
    go_enter Try.func20, Try.ntmps20
    go_wp2_with fail
    refine (sSpanValid_yes _ _ _ V.out).mono ?_
    rintro e w' ⟨rfl, rfl⟩
    go_wp2_with fail
    refine (sSpanValid_no _ _ _ U.out).mono ?_
    rintro e w' ⟨rfl, rfl⟩
    go_wp2
    refine bodyPost_ret (v := .tuple #[.agg #[.int .i64 0, .int .i64 0], .bool false]) (by simp [results, Try.results20, go_sem]) rfl ⟨rfl, (by repeat (first | exact Below.refl _ _ | refine balloc ?_ _ | refine bdrew ?_ | refine bdrewN ?_ _ | refine bset ?_ (by first | (simp; done) | (simp; omega)) _ | (refine bseq ?_ (by assumption)) | (refine bgrow ?_ (by assumption) (by omega))))⟩
  · have V := Lib.hid v1
    clear v v1
    go_enter Try.func20, Try.ntmps20
    go_wp2_with fail
    refine (sSpanValid_no _ _ _ V.out).mono ?_
    rintro e w' ⟨rfl, rfl⟩
    go_wp2
    refine bodyPost_ret (v := .tuple #[.agg #[.int .i64 0, .int .i64 0], .bool false]) (by simp [results, Try.results20, go_sem]) rfl ⟨rfl, (by repeat (first | exact Below.refl _ _ | refine balloc ?_ _ | refine bdrew ?_ | refine bdrewN ?_ _ | refine bset ?_ (by first | (simp; done) | (simp; omega)) _ | (refine bseq ?_ (by assumption)) | (refine bgrow ?_ (by assumption) (by omega))))⟩

end Go.Proofs.Ytjlldfkkkfcohaa.K

/- Contracts of the functions on spans that multiply and divide. -/
import Derived.Test.YtjlldfkkkfcohaaSpn
namespace Go.Proofs.Ytjlldfkkkfcohaa.K
open Go.RowKit

/-- the quotient rounded up -/
def cdiv (a b : Int) : Int := -((-a) / b)
theorem times_bd {a n : Int} (h1 : -1073741824 ≤ a) (h2 : a ≤ 1073741824) (h3 : -1000 ≤ n) (h4 : n ≤ 1000) : -1073741824000 ≤ a * n ∧ a * n ≤ 1073741824000 := by
  rcases Int.le_total 0 n with hn | hn
  · have k1 := Int.mul_le_mul_of_nonneg_right h2 hn
    have k2 := Int.mul_le_mul_of_nonneg_right h1 hn
    omega
  · have k1 := Int.mul_le_mul_of_nonpos_right h2 hn
    have k2 := Int.mul_le_mul_of_nonpos_right h1 hn
    omega

theorem ceilDiv_in (a b : Int) (w : World) (ha : -1152921504606846976 ≤ a ∧ a ≤ 1152921504606846976) (hb : 1 ≤ b ∧ b ≤ 1152921504606846976) : Calls Try.prog 46 #[.int .i64 a, .int .i64 b] w fun e w' => e = .returned (.int .i64 (cdiv a b)) ∧ w = w' := by
  obtain ⟨q1, q2⟩ := quo_bounds (a := -a) (M := 1152921504606846976) hb.1 (by omega) (by omega) (by omega)
  obtain ⟨a1, a2⟩ := ha
  obtain ⟨b1, b2⟩ := hb
  go_enter Try.func46, Try.ntmps46
  go_wp2_with (first | (go_at_call 45; refine (FloorDiv_in _ _ _ (by omega) (by omega)).mono ?_; rintro e w' ⟨rfl, rfl⟩) | go_in)
  go_ret
  exact ⟨rfl, rfl⟩
theorem l7Ceil_in (a b : Int) (w : World) (ha : -1152921504606846976 ≤ a ∧ a ≤ 1152921504606846976) (hb : 1 ≤ b) : Calls Try.prog 44 #[.int .i64 a, .int .i64 b] w fun e w' => e = .returned (.int .i64 (cdiv a b)) ∧ w = w' := by
  obtain ⟨q1, q2⟩ := quo_bounds (a := -a) (M := 1152921504606846976) hb (by omega) (by omega) (by omega)
  obtain ⟨a1, a2⟩ := ha
  go_enter Try.func44, Try.ntmps44
  go_wp2_with (first | (go_at_call 43; refine (l1Floor_in _ _ _ (by omega) (by omega)).mono ?_; rintro e w' ⟨rfl, rfl⟩) | go_in)
  go_ret
  exact ⟨rfl, rfl⟩

theorem SpanTimes_in (a b n : Int) (w : World) (v : SV a b) (n1 : -1000 ≤ n) (n2 : n ≤ 1000) : Calls Try.prog 23 #[.agg #[.int .i64 a, .int .i64 b], .int .i64 n] w fun e w' => e = .returned (.tuple #[.agg #[.int .i64 (gl (mn (a * n) (b * n)) (mx (a * n) (b * n))), .int .i64 (gh (mn (a * n) (b * n)) (mx (a * n) (b * n)))], .bool (gb (mn (a * n) (b * n)) (mx (a * n) (b * n)))]) ∧ Below w.heap.size w w' := by
  have V := Lib.hid v
  obtain ⟨⟨h1, h2⟩, ⟨h3, h4⟩, h5⟩ := v
  obtain ⟨t1, t2⟩ := times_bd h1 h2 n1 n2
  obtain ⟨t3, t4⟩ := times_bd h3 h4 n1 n2
  have m1 : n * a = a * n := Int.mul_comm _ _
  have m2 : n * b = b * n := Int.mul_comm _ _
  have e3 : (if a * n < b * n then b * n else a * n) = mx (a * n) (b * n) := rfl
  have e4 : (if b * n < a * n then b * n else a * n) = mn (a * n) (b * n) := rfl
  go_enter Try.func23, Try.ntmps23
  go_wp2_with fail
  refine (SpanValid_yes _ _ _ V.out).mono ?_
  rintro e w' ⟨rfl, rfl⟩
  go_wp2_with (first | (go_at_call 40; refine (checked_any _ _ _).mono ?_; rintro e w1 ⟨rfl, hb1⟩; obtain ⟨hc1, hf1⟩ := bcell hb1; have hz1 := hb1.size; simp only [World.size_alloc] at hz1) | go_in)
  have q0 : w1.cell? ⟨w.heap.size + 1, 0, none⟩ = some (.int .i64 0) := (hc1 (w.heap.size + 1) 0 (by simp only [World.size_alloc]; omega)).trans (by go_simp)
  have q1 : w1.cell? ⟨w.heap.size + 1, 1, none⟩ = some (.int .i64 0) := (hc1 (w.heap.size + 1) 1 (by simp only [World.size_alloc]; omega)).trans (by go_simp)
  refine bodyPost_ret (v := .tuple #[.agg #[.int .i64 (gl (mn (a * n) (b * n)) (mx (a * n) (b * n))), .int .i64 (gh (mn (a * n) (b * n)) (mx (a * n) (b * n)))], .bool (gb (mn (a * n) (b * n)) (mx (a * n) (b * n)))]) (by simp [results, Try.results23, go_sem, q0, q1]) rfl ⟨rfl, (by repeat (first | exact Below.refl _ _ | refine balloc ?_ _ | refine bdrew ?_ | refine bdrewN ?_ _ | refine bset ?_ (by first | (simp; done) | (simp; omega)) _ | (refine bseq ?_ (by assumption)) | (refine bgrow ?_ (by assumption) (by omega))))⟩
theorem SpanTimes_no (a b n : Int) (w : World) (v : ¬ SV a b ∨ n < -1000 ∨ 1000 < n) : Calls Try.prog 23 #[.agg #[.int .i64 a, .int .i64 b], .int .i64 n] w fun e w' => e = .returned (.tuple #[.agg #[.int .i64 0, .int .i64 0], .bool false]) ∧ Below w.heap.size w w' := by
  by_cases v1 : SV a b
  · have V := Lib.hid v1
    have U := v.resolve_left (fun h => h v1)
    clear v v1
    by_cases n1 : -1000 ≤ n
    · have hd : decide (n ≤ 1000) = false := decide_eq_false (by omega)
      have n2 : 1000 < n := by omega
      clear U
      go_enter Try.func23, Try.ntmps23
      go_wp2_with (first | (go_at_call 33; refine (SpanValid_yes _ _ _ V.out).mono ?_; rintro e w' ⟨rfl, rfl⟩) | go_in)
      refine bodyPost_ret (v := .tuple #[.agg #[.int .i64 0, .int .i64 0], .bool false]) (by simp [results, Try.results23, go_sem]) rfl ⟨rfl, (by repeat (first | exact Below.refl _ _ | refine balloc ?_ _ | refine bdrew ?_ | refine bdrewN ?_ _ | refine bset ?_ (by first | (simp; done) | (simp; omega)) _ | (refine bseq ?_ (by assumption)) | (refine bgrow ?_ (by assumption) (by omega))))⟩
    · clear U
      go_enter Try.func23, Try.ntmps23
      go_wp2_with (first | (go_at_call 33; refine (SpanValid_yes _ _ _ V.out).mono ?_; rintro e w' ⟨rfl, rfl⟩) | go_in)
      refine bodyPost_ret (v := .tuple #[.agg #[.int .i64 0, .int .i64 0], .bool false]) (by simp [results, Try.results23, go_sem]) rfl ⟨rfl, (by repeat (first | exact Below.refl _ _ | refine balloc ?_ _ | refine bdrew ?_ | refine bdrewN ?_ _ | refine bset ?_ (by first | (simp; done) | (simp; omega)) _ | (refine bseq ?_ (by assumption)) | (refine bgrow ?_ (by assumption) (by omega))))⟩
  · have V := Lib.hid v1
    clear v v1
    go_enter Try.func23, Try.ntmps23
    go_wp2_with (first | (go_at_call 33; refine (SpanValid_no _ _ _ V.out).mono ?_; rintro e w' ⟨rfl, rfl⟩))
    refine bodyPost_ret (v := .tuple #[.agg #[.int .i64 0, .int .i64 0], .bool false]) (by simp [results, Try.results23, go_sem]) rfl ⟨rfl, (by repeat (first | exact Below.refl _ _ | refine balloc ?_ _ | refine bdrew ?_ | refine bdrewN ?_ _ | refine bset ?_ (by first | (simp; done) | (simp; omega)) _ | (refine bseq ?_ (by assumption)) | (refine bgrow ?_ (by assumption) (by omega))))⟩

theorem FractionSpan_in (n d : Int) (w : World) (n1 : -1073741824 ≤ n) (n2 : n ≤ 1073741824) (d1 : 1 ≤ d) (d2 : d ≤ 1073741824) : Calls Try.prog 25 #[.int .i64 n, .int .i64 d] w fun e w' => e = .returned (.tuple #[.agg #[.int .i64 (gl (n * 268435456 / d) (cdiv (n * 268435456) d)), .int .i64 (gh (n * 268435456 / d) (cdiv (n * 268435456) d))], .bool (gb (n * 268435456 / d) (cdiv (n * 268435456) d))]) ∧ Below w.heap.size w w' := by
  go_enter Try.func25, Try.ntmps25
  go_wp2_with (first | (go_at_call 45; refine (FloorDiv_in _ _ _ (by omega) (by omega)).mono ?_; rintro e w' ⟨rfl, rfl⟩) | (go_at_call 46; refine (ceilDiv_in _ _ _ (by omega) (by omega)).mono ?_; rintro e w' ⟨rfl, rfl⟩) | (go_at_call 40; refine (checked_any _ _ _).mono ?_; rintro e w1 ⟨rfl, hb1⟩; obtain ⟨hc1, hf1⟩ := bcell hb1; have hz1 := hb1.size; simp only [World.size_alloc] at hz1) | go_in)
  have q0 : w1.cell? ⟨w.heap.size, 0, none⟩ = some (.int .i64 0) := (hc1 (w.heap.size) 0 (by simp only [World.size_alloc]; omega)).trans (by go_simp)
  have q1 : w1.cell? ⟨w.heap.size, 1, none⟩ = some (.int .i64 0) := (hc1 (w.heap.size) 1 (by simp only [World.size_alloc]; omega)).trans (by go_simp)
  refine bodyPost_ret (v := .tuple #[.agg #[.int .i64 (gl (n * 268435456 / d) (cdiv (n * 268435456) d)), .int .i64 (gh (n * 268435456 / d) (cdiv (n * 268435456) d))], .bool (gb (n * 268435456 / d) (cdiv (n * 268435456) d))]) (by simp [results, Try.results25, go_sem, q0, q1]) rfl ⟨rfl, (by repeat (first | exact Below.refl _ _ | refine balloc ?_ _ | refine bdrew ?_ | refine bdrewN ?_ _ | refine bset ?_ (by first | (simp; done) | (simp; omega)) _ | (refine bseq ?_ (by assumption)) | (refine bgrow ?_ (by assumption) (by omega))))⟩
theorem FractionSpan_no (n d : Int) (w : World) (h : (n < -1073741824 ∨ 1073741824 < n) ∨ d < 1 ∨ 1073741824 < d) : Calls Try.prog 25 #[.int .i64 n, .int .i64 d] w fun e w' => e = .returned (.tuple #[.agg #[.int .i64 0, .int .i64 0], .bool false]) ∧ Below w.heap.size w w' := by
  by_cases h0 : -1073741824 ≤ n
  · by_cases h1 : n ≤ 1073741824
    · by_cases h2 : 1 ≤ d
      · have hd : decide (d ≤ 1073741824) = false := decide_eq_false (by omega)
        have h3 : ¬ d ≤ 1073741824 := by omega
        clear h
        go_enter Try.func25, Try.ntmps25
        go_wp2
        refine bodyPost_ret (v := .tuple #[.agg #[.int .i64 0, .int .i64 0], .bool false]) (by simp [results, Try.results25, go_sem]) rfl ⟨rfl, (by repeat (first | exact Below.refl _ _ | refine balloc ?_ _ | refine bdrew ?_ | refine bdrewN ?_ _ | refine bset ?_ (by first | (simp; done) | (simp; omega)) _ | (refine bseq ?_ (by assumption)) | (refine bgrow ?_ (by assumption) (by omega))))⟩
      · have hd : decide (1 ≤ d) = false := decide_eq_false h2
        clear h
        go_enter Try.func25, Try.ntmps25
        go_wp2
        refine bodyPost_ret (v := .tuple #[.agg #[.int .i64 0, .int .i64 0], .bool false]) (by simp [results, Try.results25, go_sem]) rfl ⟨rfl, (by repeat (first | exact Below.refl _ _ | refine balloc ?_ _ | refine bdrew ?_ | refine bdrewN ?_ _ | refine bset ?_ (by first | (simp; done) | (simp; omega)) _ | (refine bseq ?_ (by assumption)) | (refine bgrow ?_ (by assumption) (by omega))))⟩
    · have hd : decide (n ≤ 1073741824) = false := decide_eq_false h1
      clear h
      go_enter Try.func25, Try.ntmps25
      go_wp2
      refine bodyPost_ret (v := .tuple #[.agg #[.int .i64 0, .int .i64 0], .bool false]) (by simp [results, Try.results25, go_sem]) rfl ⟨rfl, (by repeat (first | exact Below.refl _ _ | refine balloc ?_ _ | refine bdrew ?_ | refine bdrewN ?_ _ | refine bset ?_ (by first | (simp; done) | (simp; omega)) _ | (refine bseq ?_ (by assumption)) | (refine bgrow ?_ (by assumption) (by omega))))⟩
  · have hd : decide (-1073741824 ≤ n) = false := decide_eq_false h0
    clear h
    go_enter Try.func25, Try.ntmps25
    go_wp2
    refine bodyPost_ret (v := .tuple #[.agg #[.int .i64 0, .int .i64 0], .bool false]) (by simp [results, Try.results25, go_sem]) rfl ⟨rfl, (by repeat (first | exact Below.refl _ _ | refine balloc ?_ _ | refine bdrew ?_ | refine bdrewN ?_ _ | refine bset ?_ (by first | (simp; done) | (simp; omega)) _ | (refine bseq ?_ (by assumption)) | (refine bgrow ?_ (by assumption) (by omega))))⟩

theorem SpanDiv_in (a b c d : Int) (w : World) (v : SV a b) (u : SV c d) (a0 : 0 ≤ a) (c0 : 1 ≤ c) : Calls Try.prog 27 #[.agg #[.int .i64 a, .int .i64 b], .agg #[.int .i64 c, .int .i64 d]] w fun e w' => e = .returned (.tuple #[.agg #[.int .i64 (gl (a * 268435456 / d) (cdiv (b * 268435456) c)), .int .i64 (gh (a * 268435456 / d) (cdiv (b * 268435456) c))], .bool (gb (a * 268435456 / d) (cdiv (b * 268435456) c))]) ∧ Below w.heap.size w w' := by
  have V := Lib.hid v
  have U := Lib.hid u
  obtain ⟨⟨h1, h2⟩, ⟨h3, h4⟩, h5⟩ := v
  obtain ⟨⟨k1, k2⟩, ⟨k3, k4⟩, k5⟩ := u
  have i1 := IntWalk.i64_in (a * 268435456) (by omega)
  have i2 := IntWalk.i64_in (b * 268435456) (by omega)
  go_enter Try.func27, Try.ntmps27
  go_wp2_with fail
  refine (SpanValid_yes _ _ _ V.out).mono ?_
  rintro e w' ⟨rfl, rfl⟩
  go_wp2_with fail
  refine (SpanValid_yes _ _ _ U.out).mono ?_
  rintro e w' ⟨rfl, rfl⟩
  go_wp2_with fail
  go_region_held3 (fun w' => (w'.cell? ⟨w.heap.size, 0, none⟩ = some (.int .i64 a) ∧ w'.cell? ⟨w.heap.size, 1, none⟩ = some (.int .i64 b)) ∧ (w'.cell? ⟨w.heap.size + 1, 0, none⟩ = some (.int .i64 c) ∧ w'.cell? ⟨w.heap.size + 1, 1, none⟩ = some (.int .i64 d))) (first | (refine ⟨⟨?_, ?_⟩, ⟨?_, ?_⟩⟩ <;> (go_simp; done)) | exact ⟨⟨r0, r1⟩, ⟨r2, r3⟩⟩ | (refine ⟨⟨?_, ?_⟩, ⟨?_, ?_⟩⟩ <;> (go_simp; done)))
    (first | (go_at_call 45; refine (FloorDiv_in _ _ _ (by omega) (by omega)).mono ?_; rintro e w' ⟨rfl, rfl⟩) | (go_at_call 46; refine (ceilDiv_in _ _ _ (by omega) (by omega)).mono ?_; rintro e w' ⟨rfl, rfl⟩) | (go_at_call 40; refine (checked_any _ _ _).mono ?_; rintro e w1 ⟨rfl, hb1⟩; have hz1 := hb1.size; simp only [World.size_alloc, World.size_drew] at hz1; have r0 : w1.cell? ⟨w.heap.size, 0, none⟩ = some (.int .i64 a) := (bcell hb1).1 (w.heap.size) 0 (by first | (simp; done) | (simp; omega)) |>.trans (by go_simp); have r1 : w1.cell? ⟨w.heap.size, 1, none⟩ = some (.int .i64 b) := (bcell hb1).1 (w.heap.size) 1 (by first | (simp; done) | (simp; omega)) |>.trans (by go_simp); have r2 : w1.cell? ⟨w.heap.size + 1, 0, none⟩ = some (.int .i64 c) := (bcell hb1).1 (w.heap.size + 1) 0 (by first | (simp; done) | (simp; omega)) |>.trans (by go_simp); have r3 : w1.cell? ⟨w.heap.size + 1, 1, none⟩ = some (.int .i64 d) := (bcell hb1).1 (w.heap.size + 1) 1 (by first | (simp; done) | (simp; omega)) |>.trans (by go_simp); have q0 : w1.cell? ⟨w.heap.size + 1 + 1, 0, none⟩ = some (.int .i64 0) := (bcell hb1).1 (w.heap.size + 1 + 1) 0 (by first | (simp; done) | (simp; omega)) |>.trans (by go_simp); have q1 : w1.cell? ⟨w.heap.size + 1 + 1, 1, none⟩ = some (.int .i64 0) := (bcell hb1).1 (w.heap.size + 1 + 1) 1 (by first | (simp; done) | (simp; omega)) |>.trans (by go_simp); have g0 : w1.frozen? ⟨w.heap.size + 1 + 1, 0, none⟩ = false := (bcell hb1).2 (w.heap.size + 1 + 1) 0 (by first | (simp; done) | (simp; omega)) |>.trans (by go_simp); have g1 : w1.frozen? ⟨w.heap.size + 1 + 1, 1, none⟩ = false := (bcell hb1).2 (w.heap.size + 1 + 1) 1 (by first | (simp; done) | (simp; omega)) |>.trans (by go_simp)))
  all_goals
    go_wp2
    refine bodyPost_ret (v := .tuple #[.agg #[.int .i64 (gl (a * 268435456 / d) (cdiv (b * 268435456) c)), .int .i64 (gh (a * 268435456 / d) (cdiv (b * 268435456) c))], .bool (gb (a * 268435456 / d) (cdiv (b * 268435456) c))]) (by simp [results, Try.results27, go_sem, q0, q1]) rfl ⟨rfl, (by repeat (first | exact Below.refl _ _ | refine balloc ?_ _ | refine bdrew ?_ | refine bdrewN ?_ _ | refine bset ?_ (by first | (simp; done) | (simp; omega)) _ | (refine bseq ?_ (by assumption)) | (refine bgrow ?_ (by assumption) (by omega))))⟩
theorem SpanDiv_no (a b c d : Int) (w : World) (v : ¬ SV a b ∨ ¬ SV c d ∨ a < 0 ∨ c < 1) : Calls Try.prog 27 #[.agg #[.int .i64 a, .int .i64 b], .agg #[.int .i64 c, .int .i64 d]] w fun e w' => e = .returned (.tuple #[.agg #[.int .i64 0, .int .i64 0], .bool false]) ∧ Below w.heap.size w w' := by
  by_cases v1 : SV a b
  · have V := Lib.hid v1
    have v2 := v.resolve_left (fun h => h v1)
    clear v v1
    by_cases v3 : SV c d
    · have U := Lib.hid v3
      have v4 := v2.resolve_left (fun h => h v3)
      clear v2 v3
      by_cases a0 : 0 ≤ a
      · have c0 : c ≤ 0 := by omega
        have hd : decide (c ≤ 0) = true := decide_eq_true c0
        clear v4
        go_enter Try.func27, Try.ntmps27
        go_wp2_with fail
        refine (SpanValid_yes _ _ _ V.out).mono ?_
        rintro e w' ⟨rfl, rfl⟩
        go_wp2_with fail
        refine (SpanValid_yes _ _ _ U.out).mono ?_
        rintro e w' ⟨rfl, rfl⟩
        go_wp2
        refine bodyPost_ret (v := .tuple #[.agg #[.int .i64 0, .int .i64 0], .bool false]) (by simp [results, Try.results27, go_sem]) rfl ⟨rfl, (by repeat (first | exact Below.refl _ _ | refine balloc ?_ _ | refine bdrew ?_ | refine bdrewN ?_ _ | refine bset ?_ (by first | (simp; done) | (simp; omega)) _ | (refine bseq ?_ (by assumption)) | (refine bgrow ?_ (by assumption) (by omega))))⟩
      · clear v4
        go_enter Try.func27, Try.ntmps27
        go_wp2_with fail
        refine (SpanValid_yes _ _ _ V.out).mono ?_
        rintro e w' ⟨rfl, rfl⟩
        go_wp2_with fail
        refine (SpanValid_yes _ _ _ U.out).mono ?_
        rintro e w' ⟨rfl, rfl⟩
        go_wp2
        refine bodyPost_ret (v := .tuple #[.agg #[.int .i64 0, .int .i64 0], .bool false]) (by simp [results, Try.results27, go_sem]) rfl ⟨rfl, (by repeat (first | exact Below.refl _ _ | refine balloc ?_ _ | refine bdrew ?_ | refine bdrewN ?_ _ | refine bset ?_ (by first | (simp; done) | (simp; omega)) _ | (refine bseq ?_ (by assumption)) | (refine bgrow ?_ (by assumption) (by omega))))⟩
    · have U := Lib.hid v3
      clear v2 v3
      go_enter Try.func27, Try.ntmps27
      go_wp2_with fail
      refine (SpanValid_yes _ _ _ V.out).mono ?_
      rintro e w' ⟨rfl, rfl⟩
      go_wp2_with fail
      refine (SpanValid_no _ _ _ U.out).mono ?_
      rintro e w' ⟨rfl, rfl⟩
      go_wp2
      refine bodyPost_ret (v := .tuple #[.agg #[.int .i64 0, .int .i64 0], .bool false]) (by simp [results, Try.results27, go_sem]) rfl ⟨rfl, (by repeat (first | exact Below.refl _ _ | refine balloc ?_ _ | refine bdrew ?_ | refine bdrewN ?_ _ | refine bset ?_ (by first | (simp; done) | (simp; omega)) _ | (refine bseq ?_ (by assumption)) | (refine bgrow ?_ (by assumption) (by omega))))⟩
  · have V := Lib.hid v1
    clear v v1
    go_enter Try.func27, Try.ntmps27
    go_wp2_with fail
    refine (SpanValid_no _ _ _ V.out).mono ?_
    rintro e w' ⟨rfl, rfl⟩
    go_wp2
    refine bodyPost_ret (v := .tuple #[.agg #[.int .i64 0, .int .i64 0], .bool false]) (by simp [results, Try.results27, go_sem]) rfl ⟨rfl, (by repeat (first | exact Below.refl _ _ | refine balloc ?_ _ | refine bdrew ?_ | refine bdrewN ?_ _ | refine bset ?_ (by first | (simp; done) | (simp; omega)) _ | (refine bseq ?_ (by assumption)) | (refine bgrow ?_ (by assumption) (by omega))))⟩

theorem sSpanTimes_in (a b n : Int) (w : World) (v : SV a b) (n1 : -1000 ≤ n) (n2 : n ≤ 1000) : Calls Try.prog 22 #[.agg #[.int .i64 a, .int .i64 b], .int .i64 n] w fun e w' => e = .returned (.tuple #[.agg #[.int .i64 (gl (mn (a * n) (b * n)) (mx (a * n) (b * n))), .int .i64 (gh (mn (a * n) (b * n)) (mx (a * n) (b * n)))], .bool (gb (mn (a * n) (b * n)) (mx (a * n) (b * n)))]) ∧ Below w.heap.size w w' := by
  have V := Lib.hid v
  obtain ⟨⟨h1, h2⟩, ⟨h3, h4⟩, h5⟩ := v
  obtain ⟨t1, t2⟩ := times_bd h1 h2 n1 n2
  obtain ⟨t3, t4⟩ := times_bd h3 h4 n1 n2
  have m1 : n * a = a * n := Int.mul_comm _ _
  have m2 : n * b = b * n := Int.mul_comm _ _
  have e3 : (if a * n < b * n then b * n else a * n) = mx (a * n) (b * n) := rfl
  have e4 : (if b * n < a * n then b * n else a * n) = mn (a * n) (b * n) := rfl
  go_enter Try.func22, Try.ntmps22
  go_wp2_with fail
  refine (sSpanValid_yes _ _ _ V.out).mono ?_
  rintro e w' ⟨rfl, rfl⟩
  go_wp2_with (first | (go_at_call 39; refine (l7Good_any _ _ _).mono ?_; rintro e w1 ⟨rfl, hb1⟩; obtain ⟨hc1, hf1⟩ := bcell hb1; have hz1 := hb1.size; simp only [World.size_alloc] at hz1) | go_in)
  have q0 : w1.cell? ⟨w.heap.size + 1, 0, none⟩ = some (.int .i64 0) := (hc1 (w.heap.size + 1) 0 (by simp only [World.size_alloc]; omega)).trans (by go_simp)
  have q1 : w1.cell? ⟨w.heap.size + 1, 1, none⟩ = some (.int .i64 0) := (hc1 (w.heap.size + 1) 1 (by simp only [World.size_alloc]; omega)).trans (by go_simp)
  refine bodyPost_ret (v := .tuple #[.agg #[.int .i64 (gl (mn (a * n) (b * n)) (mx (a * n) (b * n))), .int .i64 (gh (mn (a * n) (b * n)) (mx (a * n) (b * n)))], .bool (gb (mn (a * n) (b * n)) (mx (a * n) (b * n)))]) (by simp [results, Try.results22, go_sem, q0, q1]) rfl ⟨rfl, (by repeat (first | exact Below.refl _ _ | refine balloc ?_ _ | refine bdrew ?_ | refine bdrewN ?_ _ | refine bset ?_ (by first | (simp; done) | (simp; omega)) _ | (refine bseq ?_ (by assumption)) | (refine bgrow ?_ (by assumption) (by omega))))⟩
theorem sSpanTimes_no (a b n : Int) (w : World) (v : ¬ SV a b ∨ n < -1000 ∨ 1000 < n) : Calls Try.prog 22 #[.agg #[.int .i64 a, .int .i64 b], .int .i64 n] w fun e w' => e = .returned (.tuple #[.agg #[.int .i64 0, .int .i64 0], .bool false]) ∧ Below w.heap.size w w' := by
  by_cases v1 : SV a b
  · have V := Lib.hid v1
    have U := v.resolve_left (fun h => h v1)
    clear v v1
    by_cases n1 : -1000 ≤ n
    · have hd : decide (n ≤ 1000) = false := decide_eq_false (by omega)
      have n2 : 1000 < n := by omega
      clear U
      go_enter Try.func22, Try.ntmps22
      go_wp2_with (first | (go_at_call 34; refine (sSpanValid_yes _ _ _ V.out).mono ?_; rintro e w' ⟨rfl, rfl⟩) | go_in)
      refine bodyPost_ret (v := .tuple #[.agg #[.int .i64 0, .int .i64 0], .bool false]) (by simp [results, Try.results22, go_sem]) rfl ⟨rfl, (by repeat (first | exact Below.refl _ _ | refine balloc ?_ _ | refine bdrew ?_ | refine bdrewN ?_ _ | refine bset ?_ (by first | (simp; done) | (simp; omega)) _ | (refine bseq ?_ (by assumption)) | (refine bgrow ?_ (by assumption) (by omega))))⟩
    · clear U
      go_enter Try.func22, Try.ntmps22
      go_wp2_with (first | (go_at_call 34; refine (sSpanValid_yes _ _ _ V.out).mono ?_; rintro e w' ⟨rfl, rfl⟩) | go_in)
      refine bodyPost_ret (v := .tuple #[.agg #[.int .i64 0, .int .i64 0], .bool false]) (by simp [results, Try.results22, go_sem]) rfl ⟨rfl, (by repeat (first | exact Below.refl _ _ | refine balloc ?_ _ | refine bdrew ?_ | refine bdrewN ?_ _ | refine bset ?_ (by first | (simp; done) | (simp; omega)) _ | (refine bseq ?_ (by assumption)) | (refine bgrow ?_ (by assumption) (by omega))))⟩
  · have V := Lib.hid v1
    clear v v1
    go_enter Try.func22, Try.ntmps22
    go_wp2_with (first | (go_at_call 34; refine (sSpanValid_no _ _ _ V.out).mono ?_; rintro e w' ⟨rfl, rfl⟩))
    refine bodyPost_ret (v := .tuple #[.agg #[.int .i64 0, .int .i64 0], .bool false]) (by simp [results, Try.results22, go_sem]) rfl ⟨rfl, (by repeat (first | exact Below.refl _ _ | refine balloc ?_ _ | refine bdrew ?_ | refine bdrewN ?_ _ | refine bset ?_ (by first | (simp; done) | (simp; omega)) _ | (refine bseq ?_ (by assumption)) | (refine bgrow ?_ (by assumption) (by omega))))⟩

theorem sFractionSpan_in (n d : Int) (w : World) (n1 : -1073741824 ≤ n) (n2 : n ≤ 1073741824) (d1 : 1 ≤ d) (d2 : d ≤ 1073741824) : Calls Try.prog 24 #[.int .i64 n, .int .i64 d] w fun e w' => e = .returned (.tuple #[.agg #[.int .i64 (gl (n * 268435456 / d) (cdiv (n * 268435456) d)), .int .i64 (gh (n * 268435456 / d) (cdiv (n * 268435456) d))], .bool (gb (n * 268435456 / d) (cdiv (n * 268435456) d))]) ∧ Below w.heap.size w w' := by
  go_enter Try.func24, Try.ntmps24
  go_wp2_with (first | (go_at_call 43; refine (l1Floor_in _ _ _ (by omega) (by omega)).mono ?_; rintro e w' ⟨rfl, rfl⟩) | (go_at_call 44; refine (l7Ceil_in _ _ _ (by omega) (by omega)).mono ?_; rintro e w' ⟨rfl, rfl⟩) | (go_at_call 39; refine (l7Good_any _ _ _).mono ?_; rintro e w1 ⟨rfl, hb1⟩; obtain ⟨hc1, hf1⟩ := bcell hb1; have hz1 := hb1.size; simp only [World.size_alloc] at hz1) | go_in)
  have q0 : w1.cell? ⟨w.heap.size, 0, none⟩ = some (.int .i64 0) := (hc1 (w.heap.size) 0 (by simp only [World.size_alloc]; omega)).trans (by go_simp)
  have q1 : w1.cell? ⟨w.heap.size, 1, none⟩ = some (.int .i64 0) := (hc1 (w.heap.size) 1 (by simp only [World.size_alloc]; omega)).trans (by go_simp)
  refine bodyPost_ret (v := .tuple #[.agg #[.int .i64 (gl (n * 268435456 / d) (cdiv (n * 268435456) d)), .int .i64 (gh (n * 268435456 / d) (cdiv (n * 268435456) d))], .bool (gb (n * 268435456 / d) (cdiv (n * 268435456) d))]) (by simp [results, Try.results24, go_sem, q0, q1]) rfl ⟨rfl, (by repeat (first | exact Below.refl _ _ | refine balloc ?_ _ | refine bdrew ?_ | refine bdrewN ?_ _ | refine bset ?_ (by first | (simp; done) | (simp; omega)) _ | (refine bseq ?_ (by assumption)) | (refine bgrow ?_ (by assumption) (by omega))))⟩
theorem sFractionSpan_no (n d : Int) (w : World) (h : (n < -1073741824 ∨ 1073741824 < n) ∨ d < 1 ∨ 1073741824 < d) : Calls Try.prog 24 #[.int .i64 n, .int .i64 d] w fun e w' => e = .returned (.tuple #[.agg #[.int .i64 0, .int .i64 0], .bool false]) ∧ Below w.heap.size w w' := by
  by_cases h0 : -1073741824 ≤ n
  · by_cases h1 : n ≤ 1073741824
    · by_cases h2 : 1 ≤ d
      · have hd : decide (d ≤ 1073741824) = false := decide_eq_false (by omega)
        have h3 : ¬ d ≤ 1073741824 := by omega
        clear h
        go_enter Try.func24, Try.ntmps24
        go_wp2
        refine bodyPost_ret (v := .tuple #[.agg #[.int .i64 0, .int .i64 0], .bool false]) (by simp [results, Try.results24, go_sem]) rfl ⟨rfl, (by repeat (first | exact Below.refl _ _ | refine balloc ?_ _ | refine bdrew ?_ | refine bdrewN ?_ _ | refine bset ?_ (by first | (simp; done) | (simp; omega)) _ | (refine bseq ?_ (by assumption)) | (refine bgrow ?_ (by assumption) (by omega))))⟩
      · have hd : decide (1 ≤ d) = false := decide_eq_false h2
        clear h
        go_enter Try.func24, Try.ntmps24
        go_wp2
        refine bodyPost_ret (v := .tuple #[.agg #[.int .i64 0, .int .i64 0], .bool false]) (by simp [results, Try.results24, go_sem]) rfl ⟨rfl, (by repeat (first | exact Below.refl _ _ | refine balloc ?_ _ | refine bdrew ?_ | refine bdrewN ?_ _ | refine bset ?_ (by first | (simp; done) | (simp; omega)) _ | (refine bseq ?_ (by assumption)) | (refine bgrow ?_ (by assumption) (by omega))))⟩
    · have hd : decide (n ≤ 1073741824) = false := decide_eq_false h1
      clear h
      go_enter Try.func24, Try.ntmps24
      go_wp2
      refine bodyPost_ret (v := .tuple #[.agg #[.int .i64 0, .int .i64 0], .bool false]) (by simp [results, Try.results24, go_sem]) rfl ⟨rfl, (by repeat (first | exact Below.refl _ _ | refine balloc ?_ _ | refine bdrew ?_ | refine bdrewN ?_ _ | refine bset ?_ (by first | (simp; done) | (simp; omega)) _ | (refine bseq ?_ (by assumption)) | (refine bgrow ?_ (by assumption) (by omega))))⟩
  · have hd : decide (-1073741824 ≤ n) = false := decide_eq_false h0
    clear h
    go_enter Try.func24, Try.ntmps24
    go_wp2
    refine bodyPost_ret (v := .tuple #[.agg #[.int .i64 0, .int .i64 0], .bool false]) (by simp [results, Try.results24, go_sem]) rfl ⟨rfl, (by repeat (first | exact Below.refl _ _ | refine balloc ?_ _ | refine bdrew ?_ | refine bdrewN ?_ _ | refine bset ?_ (by first | (simp; done) | (simp; omega)) _ | (refine bseq ?_ (by assumption)) | (refine bgrow ?_ (by assumption) (by omega))))⟩

theorem sSpanDiv_in (a b c d : Int) (w : World) (v : SV a b) (u : SV c d) (a0 : 0 ≤ a) (c0 : 1 ≤ c) : Calls Try.prog 26 #[.agg #[.int .i64 a, .int .i64 b], .agg #[.int .i64 c, .int .i64 d]] w fun e w' => e = .returned (.tuple #[.agg #[.int .i64 (gl (a * 268435456 / d) (cdiv (b * 268435456) c)), .int .i64 (gh (a * 268435456 / d) (cdiv (b * 268435456) c))], .bool (gb (a * 268435456 / d) (cdiv (b * 268435456) c))]) ∧ Below w.heap.size w w' := by
  have V := Lib.hid v
  have U := Lib.hid u
  obtain ⟨⟨h1, h2⟩, ⟨h3, h4⟩, h5⟩ := v
  obtain ⟨⟨k1, k2⟩, ⟨k3, k4⟩, k5⟩ := u
  have i1 := IntWalk.i64_in (a * 268435456) (by omega)
  have i2 := IntWalk.i64_in (b * 268435456) (by omega)
  go_enter Try.func26, Try.ntmps26
  go_wp2_with fail
  refine (sSpanValid_yes _ _ _ V.out).mono ?_
  rintro e w' ⟨rfl, rfl⟩
  go_wp2_with fail
  refine (sSpanValid_yes _ _ _ U.out).mono ?_
  rintro e w' ⟨rfl, rfl⟩
  go_wp2_with fail
  go_region_held3 (fun w' => (w'.cell? ⟨w.heap.size, 0, none⟩ = some (.int .i64 a) ∧ w'.cell? ⟨w.heap.size, 1, none⟩ = some (.int .i64 b)) ∧ (w'.cell? ⟨w.heap.size + 1, 0, none⟩ = some (.int .i64 c) ∧ w'.cell? ⟨w.heap.size + 1, 1, none⟩ = some (.int .i64 d))) (first | (refine ⟨⟨?_, ?_⟩, ⟨?_, ?_⟩⟩ <;> (go_simp; done)) | exact ⟨⟨r0, r1⟩, ⟨r2, r3⟩⟩ | (refine ⟨⟨?_, ?_⟩, ⟨?_, ?_⟩⟩ <;> (go_simp; done)))
    (first | (go_at_call 43; refine (l1Floor_in _ _ _ (by omega) (by omega)).mono ?_; rintro e w' ⟨rfl, rfl⟩) | (go_at_call 44; refine (l7Ceil_in _ _ _ (by omega) (by omega)).mono ?_; rintro e w' ⟨rfl, rfl⟩) | (go_at_call 39; refine (l7Good_any _ _ _).mono ?_; rintro e w1 ⟨rfl, hb1⟩; have hz1 := hb1.size; simp only [World.size_alloc, World.size_drew] at hz1; have r0 : w1.cell? ⟨w.heap.size, 0, none⟩ = some (.int .i64 a) := (bcell hb1).1 (w.heap.size) 0 (by first | (simp; done) | (simp; omega)) |>.trans (by go_simp); have r1 : w1.cell? ⟨w.heap.size, 1, none⟩ = some (.int .i64 b) := (bcell hb1).1 (w.heap.size) 1 (by first | (simp; done) | (simp; omega)) |>.trans (by go_simp); have r2 : w1.cell? ⟨w.heap.size + 1, 0, none⟩ = some (.int .i64 c) := (bcell hb1).1 (w.heap.size + 1) 0 (by first | (simp; done) | (simp; omega)) |>.trans (by go_simp); have r3 : w1.cell? ⟨w.heap.size + 1, 1, none⟩ = some (.int .i64 d) := (bcell hb1).1 (w.heap.size + 1) 1 (by first | (simp; done) | (simp; omega)) |>.trans (by go_simp); have q0 : w1.cell? ⟨w.heap.size + 1 + 1, 0, none⟩ = some (.int .i64 0) := (bcell hb1).1 (w.heap.size + 1 + 1) 0 (by first | (simp; done) | (simp; omega)) |>.trans (by go_simp); have q1 : w1.cell? ⟨w.heap.size + 1 + 1, 1, none⟩ = some (.int .i64 0) := (bcell hb1).1 (w.heap.size + 1 + 1) 1 (by first | (simp; done) | (simp; omega)) |>.trans (by go_simp); have g0 : w1.frozen? ⟨w.heap.size + 1 + 1, 0, none⟩ = false := (bcell hb1).2 (w.heap.size + 1 + 1) 0 (by first | (simp; done) | (simp; omega)) |>.trans (by go_simp); have g1 : w1.frozen? ⟨w.heap.size + 1 + 1, 1, none⟩ = false := (bcell hb1).2 (w.heap.size + 1 + 1) 1 (by first | (simp; done) | (simp; omega)) |>.trans (by go_simp)))
  all_goals
    go_wp2
    refine bodyPost_ret (v := .tuple #[.agg #[.int .i64 (gl (a * 268435456 / d) (cdiv (b * 268435456) c)), .int .i64 (gh (a * 268435456 / d) (cdiv (b * 268435456) c))], .bool (gb (a * 268435456 / d) (cdiv (b * 268435456) c))]) (by simp [results, Try.results26, go_sem, q0, q1]) rfl ⟨rfl, (by repeat (first | exact Below.refl _ _ | refine balloc ?_ _ | refine bdrew ?_ | refine bdrewN ?_ _ | refine bset ?_ (by first | (simp; done) | (simp; omega)) _ | (refine bseq ?_ (by assumption)) | (refine bgrow ?_ (by assumption) (by omega))))⟩
theorem sSpanDiv_no (a b c d : Int) (w : World) (v : ¬ SV a b ∨ ¬ SV c d ∨ a < 0 ∨ c < 1) : Calls Try.prog 26 #[.agg #[.int .i64 a, .int .i64 b], .agg #[.int .i64 c, .int .i64 d]] w fun e w' => e = .returned (.tuple #[.agg #[.int .i64 0, .int .i64 0], .bool false]) ∧ Below w.heap.size w w' := by
  by_cases v1 : SV a b
  · have V := Lib.hid v1
    have v2 := v.resolve_left (fun h => h v1)
    clear v v1
    by_cases v3 : SV c d
    · have U := Lib.hid v3
      have v4 := v2.resolve_left (fun h => h v3)
      clear v2 v3
      by_cases a0 : 0 ≤ a
      · have c0 : c ≤ 0 := by omega
        have hd : decide (c ≤ 0) = true := decide_eq_true c0
        clear v4
        go_enter Try.func26, Try.ntmps26
        go_wp2_with fail
        refine (sSpanValid_yes _ _ _ V.out).mono ?_
        rintro e w' ⟨rfl, rfl⟩
        go_wp2_with fail
        refine (sSpanValid_yes _ _ _ U.out).mono ?_
        rintro e w' ⟨rfl, rfl⟩
        go_wp2
        refine bodyPost_ret (v := .tuple #[.agg #[.int .i64 0, .int .i64 0], .bool false]) (by simp [results, Try.results26, go_sem]) rfl ⟨rfl, (by repeat (first | exact Below.refl _ _ | refine balloc ?_ _ | refine bdrew ?_ | refine bdrewN ?_ _ | refine bset ?_ (by first | (simp; done) | (simp; omega)) _ | (refine bseq ?_ (by assumption)) | (refine bgrow ?_ (by assumption) (by omega))))⟩
      · clear v4
        go_enter Try.func26, Try.ntmps26
        go_wp2_with fail
        refine (sSpanValid_yes _ _ _ V.out).mono ?_
        rintro e w' ⟨rfl, rfl⟩
        go_wp2_with fail
        refine (sSpanValid_yes _ _ _ U.out).mono ?_
        rintro e w' ⟨rfl, rfl⟩
        go_wp2
        refine bodyPost_ret (v := .tuple #[.agg #[.int .i64 0, .int .i64 0], .bool false]) (by simp [results, Try.results26, go_sem]) rfl ⟨rfl, (by repeat (first | exact Below.refl _ _ | refine balloc ?_ _ | refine bdrew ?_ | refine bdrewN ?_ _ | refine bset ?_ (by first | (simp; done) | (simp; omega)) _ | (refine bseq ?_ (by assumption)) | (refine bgrow ?_ (by assumption) (by omega))))⟩
    · have U := Lib.hid v3
      clear v2 v3
      go_enter Try.func26, Try.ntmps26
      go_wp2_with fail
      refine (sSpanValid_yes _ _ _ V.out).mono ?_
      rintro e w' ⟨rfl, rfl⟩
      go_wp2_with fail
      refine (sSpanValid_no _ _ _ U.out).mono ?_
      rintro e w' ⟨rfl, rfl⟩
      go_wp2
      refine bodyPost_ret (v := .tuple #[.agg #[.int .i64 0, .int .i64 0], .bool false]) (by simp [results, Try.results26, go_sem]) rfl ⟨rfl, (by repeat (first | exact Below.refl _ _ | refine balloc ?_ _ | refine bdrew ?_ | refine bdrewN ?_ _ | refine bset ?_ (by first | (simp; done) | (simp; omega)) _ | (refine bseq ?_ (by assumption)) | (refine bgrow ?_ (by assumption) (by omega))))⟩
  · have V := Lib.hid v1
    clear v v1
    go_enter Try.func26, Try.ntmps26
    go_wp2_with fail
    refine (sSpanValid_no _ _ _ V.out).mono ?_
    rintro e w' ⟨rfl, rfl⟩
    go_wp2
    refine bodyPost_ret (v := .tuple #[.agg #[.int .i64 0, .int .i64 0], .bool false]) (by simp [results, Try.results26, go_sem]) rfl ⟨rfl, (by repeat (first | exact Below.refl _ _ | refine balloc ?_ _ | refine bdrew ?_ | refine bdrewN ?_ _ | refine bset ?_ (by first | (simp; done) | (simp; omega)) _ | (refine bseq ?_ (by assumption)) | (refine bgrow ?_ (by assumption) (by omega))))⟩

end Go.Proofs.Ytjlldfkkkfcohaa.K

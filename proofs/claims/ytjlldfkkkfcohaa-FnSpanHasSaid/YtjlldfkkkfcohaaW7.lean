/- The walks of the exact laws on the logarithm of 2 and on arc tangents. -/
import Derived.Test.YtjlldfkkkfcohaaSpn2
import Derived.Test.YtjlldfkkkfcohaaPairs
namespace Go.Proofs.Ytjlldfkkkfcohaa.K
open Go.RowKit

/-! the logarithm of 2 -/
def lp : Nat → Int | 0 => 3 | j + 1 => 9 * lp j
def LL : Nat → Int | 0 => 0 | j + 1 => LL j + 536870912 / ((2 * (j : Int) + 1) * lp j)
def LH : Nat → Int | 0 => 3 | j + 1 => LH j + cdiv 536870912 ((2 * (j : Int) + 1) * lp j)
theorem lp_facts : ∀ j : Nat, j ≤ 8 → 1 ≤ lp j ∧ lp j ≤ 129140163 ∧ 1 ≤ (2 * (j : Int) + 1) * lp j ∧ (2 * (j : Int) + 1) * lp j ≤ 2195382771 ∧ ((2 * (j : Int) + 1) * lp j ≤ 536870912 ↔ j ≤ 7) := by decide
theorem LL_facts : ∀ j : Nat, j ≤ 8 → 0 ≤ LL j ∧ LL j ≤ 1073741824 ∧ 0 ≤ LH j ∧ LH j ≤ 1073741824 := by decide
theorem LL_step : ∀ j : Nat, j ≤ 7 → 0 ≤ 536870912 / ((2 * (j : Int) + 1) * lp j) ∧ 536870912 / ((2 * (j : Int) + 1) * lp j) ≤ 536870912 ∧ 0 ≤ cdiv 536870912 ((2 * (j : Int) + 1) * lp j) ∧ cdiv 536870912 ((2 * (j : Int) + 1) * lp j) ≤ 536870912 := by decide
/-- All that a round asks of its numbers. -/
theorem log_round {j : Nat} (h : j ≤ 7) : ∃ p D l u q r : Int, lp j = p ∧ (2 * (j : Int) + 1) * p = D ∧ LL j = l ∧ LH j = u ∧ 536870912 / D = q ∧ cdiv 536870912 D = r ∧ LL (j + 1) = l + q ∧ LH (j + 1) = u + r ∧ lp (j + 1) = 9 * p ∧
    1 ≤ p ∧ p ≤ 129140163 ∧ 1 ≤ D ∧ D ≤ 536870912 ∧ 0 ≤ l ∧ l ≤ 1073741824 ∧ 0 ≤ u ∧ u ≤ 1073741824 ∧ 0 ≤ q ∧ q ≤ 536870912 ∧ 0 ≤ r ∧ r ≤ 536870912 := by
  obtain ⟨a1, a2, a3, a4, a5⟩ := lp_facts j (by omega)
  obtain ⟨b1, b2, b3, b4⟩ := LL_facts j (by omega)
  obtain ⟨c1, c2, c3, c4⟩ := LL_step j h
  exact ⟨_, _, _, _, _, _, rfl, rfl, rfl, rfl, rfl, rfl, rfl, rfl, rfl, a1, a2, a3, a5.2 h, b1, b2, b3, b4, c1, c2, c3, c4⟩

set_option maxHeartbeats 1000000 in
theorem LogTwoSpan_any (w : World) : Calls Try.prog 29 #[] w fun e w' => e = .returned (.agg #[.int .i64 (LL 8), .int .i64 (LH 8)]) ∧ Below w.heap.size w w' := by
  have Q0 : Pair ((w.alloc (.cells #[.int .i64 0, .int .i64 0] 24)).alloc (.cells #[.int .i64 0, .int .i64 3] 24)) (w.heap.size + 1) (LL 0) (LH 0) 24 := by
    have := Pair.new (w.alloc (.cells #[.int .i64 0, .int .i64 0] 24)) 0 3 24
    rwa [World.size_alloc] at this
  have Q1 : Pair ((w.alloc (.cells #[.int .i64 0, .int .i64 0] 24)).alloc (.cells #[.int .i64 0, .int .i64 3] 24)) w.heap.size 0 0 24 := (Pair.new w 0 0 24).alloc _
  go_enter Try.func29, Try.ntmps29
  go_wp2
  go_loopw [2, 3] (fun p o wr => ∃ j : Nat, j ≤ 8 ∧ p = .int .i64 (lp j) ∧ o = .int .i64 (2 * (j : Int) + 1) ∧ Pair wr (w.heap.size + 1) (LL j) (LH j) 24 ∧ Pair wr w.heap.size 0 0 24 ∧ Below w.heap.size w wr) (fun _ o _ => 20 - (intOf o).toNat)
  case atStart => exact ⟨0, by omega, rfl, rfl, Q0, Q1, (by repeat (first | exact Below.refl _ _ | refine balloc ?_ _ | refine bdrew ?_ | refine bdrewN ?_ _ | refine bset ?_ (by first | (simp; done) | (simp; omega)) _ | (refine bseq ?_ (by assumption)) | (refine bgrow ?_ (by assumption) (by omega))))⟩
  case round =>
    obtain ⟨j, hj, rfl, rfl, hs, hr, hb⟩ := hrel
    by_cases h7 : j ≤ 7
    · obtain ⟨p, D, l, u, q, r, ep, eD, el, eu, eq, er, e1, e2, e3, p1, p2, D1, D2, l1, l2, u1, u2, q1, q2, r1, r2⟩ := log_round h7
      rw [el, eu] at hs
      rw [ep]
      obtain ⟨⟨c0, c1⟩, f0, f1⟩ := hs.cells
      have E1 := Lib.hid e1
      have E2 := Lib.hid e2
      have E3 := Lib.hid e3
      clear e1 e2 e3 el eu ep
      have k1 := IntWalk.i64_in D (by omega)
      have k2 := IntWalk.i64_in (l + q) (by omega)
      have k3 := IntWalk.i64_in (u + r) (by omega)
      have I1 : Hid (∀ w, Calls Try.prog 45 #[.int .i64 536870912, .int .i64 D] w fun e w' => e = .returned (.int .i64 q) ∧ w = w') := Lib.hid fun w => by rw [← eq]; exact FloorDiv_in _ _ _ (by omega) (by omega)
      have I2 : Hid (∀ w, Calls Try.prog 46 #[.int .i64 536870912, .int .i64 D] w fun e w' => e = .returned (.int .i64 r) ∧ w = w') := Lib.hid fun w => by rw [← er]; exact ceilDiv_in _ _ _ (by omega) (by omega)
      clear eq er
      go_wp2_with fail
      go_region_with (go_at_call 45; refine (I1.out _).mono ?_; rintro e w' ⟨rfl, rfl⟩)
      all_goals
        go_wp2_with fail
        go_region_with (go_at_call 46; refine (I2.out _).mono ?_; rintro e w' ⟨rfl, rfl⟩)
        all_goals
          go_wp2
          go_roundw
          case rel => exact ⟨j + 1, by omega, by first | (rw [E3.out]; done) | (rw [E3.out]; go_num), by go_num, by rw [E1.out, E2.out]; exact (hs.set0 _).set1 _, (hr.keep (by simp) _).keep (by simp) _, bdrew (bset (bdrew (bset hb (by simp) _)) (by simp) _)⟩
          case measure => simp [intOf]; omega
    · obtain rfl : j = 8 := by omega
      obtain ⟨l, el⟩ : ∃ l, LL 8 = l := ⟨_, rfl⟩
      obtain ⟨u, eu⟩ : ∃ u, LH 8 = u := ⟨_, rfl⟩
      rw [el, eu] at hs
      have EL := Lib.hid el
      have EU := Lib.hid eu
      clear el eu
      obtain ⟨⟨c0, c1⟩, f0, f1⟩ := hs.cells
      obtain ⟨⟨d0, d1⟩, g0, g1⟩ := hr.cells
      have E := (hr.set l u).cells.1
      have e8 : lp 8 = 129140163 := by decide
      rw [e8]
      have HB := Lib.hid (bset (bset hb (p := ⟨w.heap.size, 0, none⟩) (by simp) (.int .i64 l)) (p := ⟨w.heap.size, 1, none⟩) (by simp) (.int .i64 u))
      go_wp2
      refine bodyPost_ret (v := .agg #[.int .i64 l, .int .i64 u]) (by simp [results, Try.results29, go_sem, E.1, E.2]) rfl ?_
      exact ⟨by rw [EL.out, EU.out], HB.out⟩

set_option maxHeartbeats 1000000 in
theorem sLogTwoSpan_any (w : World) : Calls Try.prog 28 #[] w fun e w' => e = .returned (.agg #[.int .i64 (LL 8), .int .i64 (LH 8)]) ∧ Below w.heap.size w w' := by
  have Q0 : Pair ((w.alloc (.cells #[.int .i64 0, .int .i64 0] 24)).alloc (.cells #[.int .i64 0, .int .i64 3] 24)) (w.heap.size + 1) (LL 0) (LH 0) 24 := by
    have := Pair.new (w.alloc (.cells #[.int .i64 0, .int .i64 0] 24)) 0 3 24
    rwa [World.size_alloc] at this
  have Q1 : Pair ((w.alloc (.cells #[.int .i64 0, .int .i64 0] 24)).alloc (.cells #[.int .i64 0, .int .i64 3] 24)) w.heap.size 0 0 24 := (Pair.new w 0 0 24).alloc _
  go_enter Try.func28, Try.ntmps28
  go_wp2
  go_loopw [2, 3] (fun p o wr => ∃ j : Nat, j ≤ 8 ∧ p = .int .i64 (lp j) ∧ o = .int .i64 j ∧ Pair wr (w.heap.size + 1) (LL j) (LH j) 24 ∧ Pair wr w.heap.size 0 0 24 ∧ Below w.heap.size w wr) (fun _ o _ => 20 - (intOf o).toNat)
  case atStart => exact ⟨0, by omega, rfl, rfl, Q0, Q1, (by repeat (first | exact Below.refl _ _ | refine balloc ?_ _ | refine bdrew ?_ | refine bdrewN ?_ _ | refine bset ?_ (by first | (simp; done) | (simp; omega)) _ | (refine bseq ?_ (by assumption)) | (refine bgrow ?_ (by assumption) (by omega))))⟩
  case round =>
    obtain ⟨j, hj, rfl, rfl, hs, hr, hb⟩ := hrel
    by_cases h7 : j ≤ 7
    · obtain ⟨p, D, l, u, q, r, ep, eD, el, eu, eq, er, e1, e2, e3, p1, p2, D1, D2, l1, l2, u1, u2, q1, q2, r1, r2⟩ := log_round h7
      rw [el, eu] at hs
      rw [ep]
      obtain ⟨⟨c0, c1⟩, f0, f1⟩ := hs.cells
      have E1 := Lib.hid e1
      have E2 := Lib.hid e2
      have E3 := Lib.hid e3
      clear e1 e2 e3 el eu ep
      have k1 := IntWalk.i64_in D (by omega)
      have k2 := IntWalk.i64_in (l + q) (by omega)
      have k3 := IntWalk.i64_in (u + r) (by omega)
      have k4 := IntWalk.i64_in (2 * (j : Int)) (by omega)
      have k5 := IntWalk.i64_in (2 * (j : Int) + 1) (by omega)
      have k6 := IntWalk.i64_in q (by omega)
      have k7 : Int.tdiv 536870912 D = q := by rw [← eq]; exact Int.tdiv_eq_ediv_of_nonneg (by omega)
      have k8 : ¬ D = 0 := by omega
      have k9 : (D == 0) = false := by simp; omega
      have I2 : Hid (∀ w, Calls Try.prog 44 #[.int .i64 536870912, .int .i64 D] w fun e w' => e = .returned (.int .i64 r) ∧ w = w') := Lib.hid fun w => by rw [← er]; exact l7Ceil_in _ _ _ (by omega) (by omega)
      clear er
      go_wp2_with fail
      go_region
      all_goals
        go_wp2_with fail
        go_region_with (go_at_call 44; refine (I2.out _).mono ?_; rintro e w' ⟨rfl, rfl⟩)
        all_goals
          go_wp2
          go_roundw
          case rel => exact ⟨j + 1, by omega, by first | (rw [E3.out]; done) | (rw [E3.out]; go_num), by go_num, by rw [E1.out, E2.out]; exact (hs.set0 _).set1 _, (hr.keep (by simp) _).keep (by simp) _, bdrew (bset (bdrew (bset hb (by simp) _)) (by simp) _)⟩
          case measure => simp [intOf]; omega
    · obtain rfl : j = 8 := by omega
      obtain ⟨l, el⟩ : ∃ l, LL 8 = l := ⟨_, rfl⟩
      obtain ⟨u, eu⟩ : ∃ u, LH 8 = u := ⟨_, rfl⟩
      rw [el, eu] at hs
      have EL := Lib.hid el
      have EU := Lib.hid eu
      clear el eu
      obtain ⟨⟨c0, c1⟩, f0, f1⟩ := hs.cells
      obtain ⟨⟨d0, d1⟩, g0, g1⟩ := hr.cells
      have E := (hr.set l u).cells.1
      have e8 : lp 8 = 129140163 := by decide
      rw [e8]
      have HB := Lib.hid (bset (bset hb (p := ⟨w.heap.size, 0, none⟩) (by simp) (.int .i64 l)) (p := ⟨w.heap.size, 1, none⟩) (by simp) (.int .i64 u))
      go_wp2
      refine bodyPost_ret (v := .agg #[.int .i64 l, .int .i64 u]) (by simp [results, Try.results28, go_sem, E.1, E.2]) rfl ?_
      exact ⟨by rw [EL.out, EU.out], HB.out⟩

end Go.Proofs.Ytjlldfkkkfcohaa.K

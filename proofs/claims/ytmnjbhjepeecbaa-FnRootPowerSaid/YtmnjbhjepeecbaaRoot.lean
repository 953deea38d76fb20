/- Contracts of the functions on lengths and roots. -/
import Derived.Test.YtmnjbhjepeecbaaNum
import Derived.Test.YtmnjbhjepeecbaaShelf
import Derived.Lib.ItoaNum
namespace Go.Proofs.Ytmnjbhjepeecbaa.K
open Go.RowKit

theorem blen (n : Nat) (h : n ≤ 1152921504606846976) : Lib.bitLen n ≤ 61 ∧ n < 2 ^ Lib.bitLen n ∧ (n ≠ 0 → 1 ≤ Lib.bitLen n ∧ 2 ^ (Lib.bitLen n - 1) ≤ n) := by
  by_cases h0 : n = 0
  · subst h0
    have e : Lib.bitLen 0 = 0 := Lib.bitLenAux_zero 64
    rw [e]
    exact ⟨by omega, by decide, fun h => absurd rfl h⟩
  · obtain ⟨h1, h2, h3⟩ := Lib.bitLenAux_bounds 64 n (by omega) h0
    have e : Lib.bitLen n = Lib.bitLenAux 64 n := rfl
    rw [e]
    refine ⟨?_, h3, fun _ => ⟨h1, h2⟩⟩
    rcases Nat.lt_or_ge 61 (Lib.bitLenAux 64 n) with h4 | h4
    · exfalso
      have h5 : 2 ^ 61 ≤ 2 ^ (Lib.bitLenAux 64 n - 1) := Nat.pow_le_pow_right (by omega) (by omega)
      omega
    · exact h4

theorem BitLength_in (n : Int) (w : World) (h1 : 0 ≤ n) (h2 : n ≤ 1152921504606846976) : Calls Try.prog 12 #[.int .i64 n] w fun e w' => e = .returned (.int .i64 (Lib.bitLen n.toNat)) ∧ w = w' := by
  go_enter Try.func12, Try.ntmps12
  go_wp2_with (first | (go_at_call 17; refine (Try.bits_Len64 _ _ (by omega) (by omega)).mono ?_; rintro e w' ⟨rfl, rfl⟩) | go_in)
  go_ret
  exact ⟨rfl, rfl⟩
theorem BitLength_out (n : Int) (w : World) (h : n < 0 ∨ 1152921504606846976 < n) : Calls Try.prog 12 #[.int .i64 n] w fun e w' => e = .returned (.int .i64 (-1)) ∧ w = w' := by
  by_cases h1 : 0 ≤ n
  · have h2 : 1152921504606846976 < n := by omega
    clear h
    go_enter Try.func12, Try.ntmps12
    go_wp2
    go_ret
    exact ⟨rfl, rfl⟩
  · clear h
    go_enter Try.func12, Try.ntmps12
    go_wp2
    go_ret
    exact ⟨rfl, rfl⟩


/-- Newton's first number is not below the root. -/
theorem first_root (n : Int) (h1 : 1 ≤ n) (h2 : n ≤ 1152921504606846976) : n < 2 ^ ((Lib.bitLen n.toNat + 1) / 2) * 2 ^ ((Lib.bitLen n.toNat + 1) / 2) ∧ (2 : Int) ^ ((Lib.bitLen n.toNat + 1) / 2) ≤ 2147483648 := by
  obtain ⟨a, b, _⟩ := blen n.toNat (by omega)
  generalize Lib.bitLen n.toNat = L at *
  refine ⟨?_, pow_le' (m := 31) (by omega)⟩
  rw [← Int.pow_add]
  have h3 : (2 : Int) ^ L ≤ 2 ^ ((L + 1) / 2 + (L + 1) / 2) := pow_le' (by omega)
  have h4 : ((n.toNat : Nat) : Int) < ((2 ^ L : Nat) : Int) := by omega
  have h5 : ((2 ^ L : Nat) : Int) = (2 : Int) ^ L := by simp
  omega
theorem first_cube (n : Int) (h1 : 1 ≤ n) (h2 : n ≤ 1152921504606846976) : n < 2 ^ ((Lib.bitLen n.toNat + 2) / 3) * 2 ^ ((Lib.bitLen n.toNat + 2) / 3) * 2 ^ ((Lib.bitLen n.toNat + 2) / 3) ∧ (2 : Int) ^ ((Lib.bitLen n.toNat + 2) / 3) ≤ 2097152 := by
  obtain ⟨a, b, _⟩ := blen n.toNat (by omega)
  generalize Lib.bitLen n.toNat = L at *
  refine ⟨?_, pow_le' (m := 21) (by omega)⟩
  rw [← Int.pow_add, ← Int.pow_add]
  have h3 : (2 : Int) ^ L ≤ 2 ^ ((L + 2) / 3 + (L + 2) / 3 + (L + 2) / 3) := pow_le' (by omega)
  have h4 : ((n.toNat : Nat) : Int) < ((2 ^ L : Nat) : Int) := by omega
  have h5 : ((2 ^ L : Nat) : Int) = (2 : Int) ^ L := by simp
  omega

theorem SqrtFloor_in (n s : Int) (w : World) (n1 : 0 ≤ n) (n2 : n ≤ 1152921504606846976) (s0 : 0 ≤ s) (s1 : s * s ≤ n) (s2 : n < (s + 1) * (s + 1)) : Calls Try.prog 5 #[.int .i64 n] w fun e w' => e = .returned (.int .i64 s) ∧ w = w' := by
  by_cases hz : n = 0
  · subst hz
    have e : Hid (0 = s) := Lib.hid (by
      have h := sq_lt (n := 0) (s := s) (r := 1) (by omega) s1 (by omega)
      omega)
    clear s1 s2
    go_enter Try.func5, Try.ntmps5
    go_wp2
    go_ret
    exact ⟨ret_int e.out, rfl⟩
  · have n3 : 1 ≤ n := by omega
    have hs : 1 ≤ s := by
      rcases Int.lt_or_le s 1 with h | h
      · obtain rfl : s = 0 := by omega
        omega
      · exact h
    obtain ⟨f1, f2⟩ := first_root n n3 n2
    have f3 := pow_pos' ((Lib.bitLen n.toNat + 1) / 2)
    have f4 := sq_lt (r := 2 ^ ((Lib.bitLen n.toNat + 1) / 2)) (by omega) s1 f1
    have hb : Lib.bitLen n.toNat ≤ 61 := (blen n.toNat (by omega)).1
    have S1 := Lib.hid s1
    have S2 := Lib.hid s2
    clear s1 s2 f1
    go_enter Try.func5, Try.ntmps5
    go_wp2_with (first | (go_at_call 12; refine (BitLength_in _ _ n1 n2).mono ?_; rintro e w' ⟨rfl, rfl⟩) | go_in)
    go_loop [3] (fun r => ∃ x : Int, r = .int .i64 x ∧ s ≤ x ∧ x ≤ 2147483648) (fun r => (intOf r).toNat)
    case atStart => exact ⟨_, rfl, by omega, f2⟩
    case round =>
      obtain ⟨x, rfl, x1, x2⟩ := hrel
      have q1 : 0 ≤ n / x := Int.ediv_nonneg n1 (by omega)
      have q2 : n / x ≤ n := Int.ediv_le_self x n1
      have q3 := newton_ge (r := x) (by omega) S1.out
      by_cases hx : x ≤ (x + n / x) / 2
      · have e : Hid (x = s) := Lib.hid (by
          have h := newton_le (by omega) hx
          have := sq_le s0 S2.out h
          omega)
        go_wp2
        go_ret
        exact ⟨ret_int e.out, rfl⟩
      · go_wp2
        go_round
        case rel => exact ⟨_, rfl, q3, by omega⟩
        case measure => simp [intOf]; omega
theorem SqrtFloor_out (n : Int) (w : World) (h : n < 0 ∨ 1152921504606846976 < n) : Calls Try.prog 5 #[.int .i64 n] w fun e w' => e = .returned (.int .i64 (-1)) ∧ w = w' := by
  by_cases h1 : 0 ≤ n
  · have h2 : 1152921504606846976 < n := by omega
    clear h
    go_enter Try.func5, Try.ntmps5
    go_wp2
    go_ret
    exact ⟨rfl, rfl⟩
  · clear h
    go_enter Try.func5, Try.ntmps5
    go_wp2
    go_ret
    exact ⟨rfl, rfl⟩

theorem l2Sqrt_in (n s : Int) (w : World) (n1 : 0 ≤ n) (n2 : n ≤ 1152921504606846976) (s0 : 0 ≤ s) (s1 : s * s ≤ n) (s2 : n < (s + 1) * (s + 1)) : Calls Try.prog 14 #[.int .i64 n] w fun e w' => e = .returned (.int .i64 s) ∧ w = w' := by
  have S1 := Lib.hid s1
  have S2 := Lib.hid s2
  clear s1 s2
  go_enter Try.func14, Try.ntmps14
  go_wp2
  go_loop [3, 4] (fun r k => ∃ x i : Int, r = .int .i64 x ∧ k = .int .i64 i ∧ -1 ≤ i ∧ i ≤ 30 ∧ BitAt n x i) (fun _ k => (intOf k + 1).toNat)
  case atStart => exact ⟨0, 30, rfl, rfl, by omega, by omega, ⟨by omega, by omega, by show n < _; simp; omega, by simp⟩⟩
  case round =>
    obtain ⟨x, i, rfl, rfl, i1, i2, hB⟩ := hrel
    have HB := Lib.hid hB
    clear hB
    by_cases hi : 0 ≤ i
    · obtain ⟨b1, b2, b3, b4, b5, b6⟩ := HB.out.bnd hi
      by_cases hx : (x + 2 ^ i.toNat) * (x + 2 ^ i.toNat) ≤ n
      · go_wp2
        go_round
        case rel => exact ⟨_, _, rfl, rfl, by omega, by omega, HB.out.yes hi hx⟩
        case measure => simp [intOf]; omega
      · go_wp2
        go_round
        case rel => exact ⟨_, _, rfl, rfl, by omega, by omega, HB.out.no hi (by omega)⟩
        case measure => simp [intOf]; omega
    · have e : Hid (x = s) := Lib.hid (by
        obtain rfl : i = -1 := by omega
        obtain ⟨h1, h2, h3, h4⟩ := HB.out
        exact sq_unique s0 h1 S1.out S2.out h2 (by simpa using h3))
      go_wp2
      go_ret
      exact ⟨ret_int e.out, rfl⟩



/-- the root rounded to the nearest number -/
def near (n s : Int) : Int := if s < n - s * s then s + 1 else s
theorem sq_bounds {n s : Int} (n2 : n ≤ 1152921504606846976) (s0 : 0 ≤ s) (s1 : s * s ≤ n) : 0 ≤ s * s ∧ s ≤ 1073741824 := by
  refine ⟨Int.mul_nonneg s0 s0, ?_⟩
  have := sq_lt (n := n) (s := s) (r := 1073741825) (by omega) s1 (by omega)
  omega

theorem SqrtRound_in (n s : Int) (w : World) (n1 : 0 ≤ n) (n2 : n ≤ 1152921504606846976) (s0 : 0 ≤ s) (s1 : s * s ≤ n) (s2 : n < (s + 1) * (s + 1)) : Calls Try.prog 8 #[.int .i64 n] w fun e w' => e = .returned (.int .i64 (near n s)) ∧ w = w' := by
  obtain ⟨q0, q1⟩ := sq_bounds n2 s0 s1
  have S2 := Lib.hid s2
  clear s2
  by_cases c : s < n - s * s
  · have e : Hid (s + 1 = near n s) := Lib.hid (by unfold near; rw [if_pos c])
    go_enter Try.func8, Try.ntmps8
    go_wp2_with (first | (go_at_call 5; refine (SqrtFloor_in _ s _ n1 n2 s0 s1 S2.out).mono ?_; rintro e w' ⟨rfl, rfl⟩) | go_in)
    go_ret
    exact ⟨ret_int e.out, rfl⟩
  · have e : Hid (s = near n s) := Lib.hid (by unfold near; rw [if_neg c])
    go_enter Try.func8, Try.ntmps8
    go_wp2_with (first | (go_at_call 5; refine (SqrtFloor_in _ s _ n1 n2 s0 s1 S2.out).mono ?_; rintro e w' ⟨rfl, rfl⟩) | go_in)
    go_ret
    exact ⟨ret_int e.out, rfl⟩
theorem SqrtRound_out (n : Int) (w : World) (h : n < 0 ∨ 1152921504606846976 < n) : Calls Try.prog 8 #[.int .i64 n] w fun e w' => e = .returned (.int .i64 (-1)) ∧ w = w' := by
  have H := Lib.hid h
  clear h
  go_enter Try.func8, Try.ntmps8
  go_wp2_with (first | (go_at_call 5; refine (SqrtFloor_out _ _ H.out).mono ?_; rintro e w' ⟨rfl, rfl⟩) | go_in)
  go_ret
  exact ⟨rfl, rfl⟩


theorem sSqrtFloor_in (n s : Int) (w : World) (n1 : 0 ≤ n) (n2 : n ≤ 1152921504606846976) (s0 : 0 ≤ s) (s1 : s * s ≤ n) (s2 : n < (s + 1) * (s + 1)) : Calls Try.prog 6 #[.int .i64 n] w fun e w' => e = .returned (.int .i64 s) ∧ w = w' := by
  have S1 := Lib.hid s1
  have S2 := Lib.hid s2
  clear s1 s2
  go_enter Try.func6, Try.ntmps6
  go_wp2_with (first | (go_at_call 14; refine (l2Sqrt_in _ s _ n1 n2 s0 S1.out S2.out).mono ?_; rintro e w' ⟨rfl, rfl⟩) | go_in)
  go_ret
  exact ⟨rfl, rfl⟩
theorem sSqrtFloor_out (n : Int) (w : World) (h : n < 0 ∨ 1152921504606846976 < n) : Calls Try.prog 6 #[.int .i64 n] w fun e w' => e = .returned (.int .i64 (-1)) ∧ w = w' := by
  by_cases h1 : 0 ≤ n
  · have hd : decide (n ≤ 1152921504606846976) = false := decide_eq_false (by omega)
    clear h
    go_enter Try.func6, Try.ntmps6
    go_wp2
    go_ret
    exact ⟨rfl, rfl⟩
  · clear h
    go_enter Try.func6, Try.ntmps6
    go_wp2
    go_ret
    exact ⟨rfl, rfl⟩

end Go.Proofs.Ytmnjbhjepeecbaa.K

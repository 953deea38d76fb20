/- Contracts of the functions on whole numbers. -/
import Derived.Test.YtffgekboieimhaaBase
import Derived.Test.YtffgekboieimhaaMath
import Derived.Test.YtffgekboieimhaaBits
namespace Go.Proofs.Ytffgekboieimhaa.K
open Go.RowKit

theorem ret_int {k : IntKind} {a b : Int} (h : a = b) : Ending.returned (.int k a) = .returned (.int k b) := by rw [h]



theorem l1Floor_in (a b : Int) (w : World) (ha : -1152921504606846976 ≤ a ∧ a ≤ 1152921504606846976) (hb : 1 ≤ b) :
    Calls Try.prog 55 #[.int .i64 a, .int .i64 b] w fun e w' => e = .returned (.int .i64 (a / b)) ∧ w = w' := by
  obtain ⟨a1, a2⟩ := ha
  by_cases h1 : 0 ≤ a
  · have h2 : 0 ≤ a % b := Int.emod_nonneg _ (by omega)
    go_enter Try.func55, Try.ntmps55
    go_wp2
    go_ret
    exact ⟨rfl, rfl⟩
  · have h3 := tdiv_neg_bounds (M := 1152921504606846976) (by omega) a1 (by omega) hb
    obtain ⟨h4, h5⟩ := h3
    by_cases h2 : a.tmod b < 0
    · have e := Lib.hid (floor_neg (by omega) hb h2)
      go_enter Try.func55, Try.ntmps55
      go_wp2
      go_ret
      exact ⟨ret_int e.out, rfl⟩
    · have e := Lib.hid (floor_pos (by omega) hb h2)
      go_enter Try.func55, Try.ntmps55
      go_wp2
      go_ret
      exact ⟨ret_int e.out, rfl⟩




theorem l1Round_in (a b : Int) (w : World) (ha : -1152921504606846976 ≤ a ∧ a ≤ 1152921504606846976) (hb : 1 ≤ b ∧ b ≤ 1152921504606846976) :
    Calls Try.prog 43 #[.int .i64 a, .int .i64 b] w fun e w' => e = .returned (.int .i64 (rnd a b)) ∧ w = w' := by
  obtain ⟨a1, a2⟩ := ha
  obtain ⟨b1, b2⟩ := hb
  obtain ⟨r1, r2⟩ := rest_bounds (a := a) b1
  obtain ⟨q1, q2⟩ := quo_bounds (M := 1152921504606846976) b1 (by omega) a1 a2
  by_cases c1 : b < 2 * (a - a / b * b)
  · have e : Hid (a / b + 1 = rnd a b) := Lib.hid (by rw [rest_eq] at c1; unfold rnd; rw [if_pos (.inl c1)])
    go_enter Try.func43, Try.ntmps43
    go_wp2_with (first | (go_at_call 55; refine (l1Floor_in _ _ _ (by omega) (by omega)).mono ?_; rintro e w' ⟨rfl, rfl⟩) | go_in)
    go_ret
    exact ⟨ret_int e.out, rfl⟩
  · by_cases c2 : 2 * (a - a / b * b) = b
    · by_cases c3 : (a / b) % 2 = 1
      · have e : Hid (a / b + 1 = rnd a b) := Lib.hid (by rw [rest_eq] at c2; unfold rnd; rw [if_pos (.inr ⟨c2, c3⟩)])
        have hm : (a / b).tmod 2 ≠ 0 := fun h => by have := (tmod_two_ne _).1 h; omega
        go_enter Try.func43, Try.ntmps43
        go_wp2_with (first | (go_at_call 55; refine (l1Floor_in _ _ _ (by omega) (by omega)).mono ?_; rintro e w' ⟨rfl, rfl⟩) | go_in)
        go_ret
        exact ⟨ret_int e.out, rfl⟩
      · have e : Hid (a / b = rnd a b) := Lib.hid (by rw [rest_eq] at c1; unfold rnd; rw [if_neg (by rintro (h | ⟨_, h⟩); exact c1 h; exact c3 h)])
        have hm : (a / b).tmod 2 = 0 := (tmod_two_ne _).2 (by omega)
        go_enter Try.func43, Try.ntmps43
        go_wp2_with (first | (go_at_call 55; refine (l1Floor_in _ _ _ (by omega) (by omega)).mono ?_; rintro e w' ⟨rfl, rfl⟩) | go_in)
        go_ret
        exact ⟨ret_int e.out, rfl⟩
    · have e : Hid (a / b = rnd a b) := Lib.hid (by rw [rest_eq] at c1 c2; unfold rnd; rw [if_neg (by rintro (h | ⟨h, _⟩); exact c1 h; exact c2 h)])
      go_enter Try.func43, Try.ntmps43
      go_wp2_with (first | (go_at_call 55; refine (l1Floor_in _ _ _ (by omega) (by omega)).mono ?_; rintro e w' ⟨rfl, rfl⟩) | go_in)
      go_ret
      exact ⟨ret_int e.out, rfl⟩




theorem RoundShift_out (a b : Int) (w : World) (h : (a < -1152921504606846976 ∨ 1152921504606846976 < a) ∨ b < 0 ∨ 60 < b) :
    Calls Try.prog 44 #[.int .i64 a, .int .i64 b] w fun e w' => e = .returned (.int .i64 0) ∧ w = w' := by
  by_cases h0 : -1152921504606846976 ≤ a
  · by_cases h1 : a ≤ 1152921504606846976
    · by_cases h2 : 0 ≤ b
      · have hd : decide (b ≤ 60) = false := decide_eq_false (by omega)
        have h3 : ¬ b ≤ 60 := by omega
        clear h
        go_enter Try.func44, Try.ntmps44
        go_wp2
        go_ret
        exact ⟨rfl, rfl⟩
      · have hd : decide (0 ≤ b) = false := decide_eq_false h2
        clear h
        go_enter Try.func44, Try.ntmps44
        go_wp2
        go_ret
        exact ⟨rfl, rfl⟩
    · have hd : decide (a ≤ 1152921504606846976) = false := decide_eq_false h1
      clear h
      go_enter Try.func44, Try.ntmps44
      go_wp2
      go_ret
      exact ⟨rfl, rfl⟩
  · have hd : decide (-1152921504606846976 ≤ a) = false := decide_eq_false h0
    clear h
    go_enter Try.func44, Try.ntmps44
    go_wp2
    go_ret
    exact ⟨rfl, rfl⟩


theorem RoundShift_in (a b : Int) (w : World) (ha : -1152921504606846976 ≤ a ∧ a ≤ 1152921504606846976) (hb : 0 ≤ b ∧ b ≤ 60) :
    Calls Try.prog 44 #[.int .i64 a, .int .i64 b] w fun e w' => e = .returned (.int .i64 (rnd a (2 ^ b.toNat))) ∧ w = w' := by
  obtain ⟨a1, a2⟩ := ha
  obtain ⟨b1, b2⟩ := hb
  have p1 := pow_pos' b.toNat
  have p2 := pow_60 b2
  have m1 := Int.emod_nonneg a (b := 2 ^ b.toNat) (by omega)
  have m2 := Int.emod_lt_of_pos a (b := 2 ^ b.toNat) (by omega)
  have hm := and_low a b.toNat (by omega)
  have ho := and_one (a / 2 ^ b.toNat)
  obtain ⟨q1, q2⟩ := quo_bounds (M := 1152921504606846976) p1 (by omega) a1 a2
  by_cases c1 : 2 ^ b.toNat < 2 * (a % 2 ^ b.toNat)
  · have e : Hid (a / 2 ^ b.toNat + 1 = rnd a (2 ^ b.toNat)) := Lib.hid (by unfold rnd; rw [if_pos (.inl c1)])
    go_enter Try.func44, Try.ntmps44
    go_wp2
    go_ret
    exact ⟨ret_int e.out, rfl⟩
  · by_cases c2 : 2 * (a % 2 ^ b.toNat) = 2 ^ b.toNat
    · by_cases c3 : (a / 2 ^ b.toNat) % 2 = 1
      · have e : Hid (a / 2 ^ b.toNat + 1 = rnd a (2 ^ b.toNat)) := Lib.hid (by unfold rnd; rw [if_pos (.inr ⟨c2, c3⟩)])
        go_enter Try.func44, Try.ntmps44
        go_wp2
        go_ret
        exact ⟨ret_int e.out, rfl⟩
      · have e : Hid (a / 2 ^ b.toNat = rnd a (2 ^ b.toNat)) := Lib.hid (by unfold rnd; rw [if_neg (by rintro (h | ⟨_, h⟩); exact c1 h; exact c3 h)])
        go_enter Try.func44, Try.ntmps44
        go_wp2
        go_ret
        exact ⟨ret_int e.out, rfl⟩
    · have e : Hid (a / 2 ^ b.toNat = rnd a (2 ^ b.toNat)) := Lib.hid (by unfold rnd; rw [if_neg (by rintro (h | ⟨h, _⟩); exact c1 h; exact c2 h)])
      go_enter Try.func44, Try.ntmps44
      go_wp2
      go_ret
      exact ⟨ret_int e.out, rfl⟩

end Go.Proofs.Ytffgekboieimhaa.K

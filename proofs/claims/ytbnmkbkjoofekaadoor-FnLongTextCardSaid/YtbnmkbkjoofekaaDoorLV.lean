/- Contracts of the functions that tell which slices are long numbers. -/
import Derived.Test.YtbnmkbkjoofekaaDoorLB
namespace Go.Proofs.YtbnmkbkjoofekaaDoor.K
open Go.RowKit

theorem ret_bool {a b : Bool} (h : a = b) : Ending.returned (.bool a) = .returned (.bool b) := by rw [h]

theorem LongValid_any (lo : Nat) (ao : Option Addr) (cap : Nat) (xs : List Int) (w : World) (h : Row w lo ao cap xs) : Calls Tryd.prog 12 #[.slice ao xs.length cap] w fun e w' => e = .returned (.bool (lv xs)) ∧ w = w' := by
  obtain ⟨hlc, hcap⟩ := h.len_lt
  have H := Lib.hid h
  clear h
  obtain ⟨f, hf⟩ : ∃ f : Nat → Int, ∀ j, f j = xs.getD j 0 := ⟨_, fun _ => rfl⟩
  have F := Lib.hid hf
  clear hf
  have H1 : Hid (60 < xs.length → false = lv xs) := Lib.hid fun h => (lv_false_of_big h).symm
  have H2 : Hid (∀ j, j < xs.length → f j < 0 ∨ 9999 < f j → false = lv xs) := Lib.hid fun j hj h => (lv_false_of_digit hj (by rw [← F.out]; exact h)).symm
  have H3 : Hid ((∀ j, j < xs.length → 0 ≤ f j ∧ f j ≤ 9999) → xs.length ≤ 60 → (xs.length = 0 → true = lv xs) ∧ (f (xs.length - 1) = 0 → xs.length ≠ 0 → false = lv xs) ∧ (f (xs.length - 1) ≠ 0 → true = lv xs)) := Lib.hid fun h h60 => by
    have e := lv_of_digits (xs := xs) (fun j hj => by rw [← F.out]; exact h j hj)
    rw [← F.out] at e
    refine ⟨fun h0 => ?_, fun h0 h1 => ?_, fun h0 => ?_⟩ <;> rw [e] <;> simp [h60, h0]
    exact fun e => h1 (by rw [e]; rfl)
  have HC : Hid (∀ g, ao = some ⟨g, 0, none⟩ → ∀ j, j < xs.length → w.cell? ⟨g, j, none⟩ = some (.int .i64 (f j))) := Lib.hid fun g hg j hj => by
    have := H.out; rw [hg] at this; rw [this.cell hj, F.out]
  have HB : Hid (0 < xs.length → ∃ g, ao = some ⟨g, 0, none⟩) := Lib.hid fun h0 => by obtain ⟨g, hg, _⟩ := H.out.block h0; exact ⟨g, hg⟩
  clear H F
  generalize xs.length = n at *
  by_cases hbig : 60 < n
  · have hbig' : (60 : Int) < (n : Int) := by omega
    go_enter Tryd.func12, Tryd.ntmps12
    go_wp2
    go_ret
    exact ⟨ret_bool (H1.out hbig), rfl⟩
  · have hbig' : (n : Int) ≤ 60 := by omega
    go_enter Tryd.func12, Tryd.ntmps12
    go_wp2
    go_loop [4, 10] (fun d i => ∃ k : Nat, k ≤ n ∧ i = .int .i64 k ∧ ∀ j, j < k → 0 ≤ f j ∧ f j ≤ 9999) (fun _ i => n - (intOf i).toNat)
    case atStart => exact ⟨0, by omega, rfl, fun j hj => by omega⟩
    case round =>
      obtain ⟨k, hk, rfl, hd⟩ := hrel
      have D := Lib.hid hd
      clear hd
      by_cases hkn : k < n
      · obtain ⟨g, rfl⟩ := HB.out (by omega)
        have hc := HC.out g rfl k hkn
        have hkn' : (k : Int) < (n : Int) := by omega
        by_cases h0 : f k < 0
        · go_wp2
          go_ret
          exact ⟨ret_bool (H2.out k hkn (.inl h0)), rfl⟩
        · by_cases h9 : 9999 < f k
          · have h9' : (10000 : Int) ≤ f k := by omega
            go_wp2
            go_ret
            exact ⟨ret_bool (H2.out k hkn (.inr h9)), rfl⟩
          · have h9' : f k < (10000 : Int) := by omega
            go_wp2
            go_round
            case rel => exact ⟨k + 1, by omega, by go_num, fun j hj => by
              rcases Nat.lt_or_ge j k with h | h
              · exact D.out j h
              · obtain rfl : j = k := by omega
                omega⟩
            case measure => simp [intOf]; omega
      · obtain rfl : k = n := by omega
        obtain ⟨r1, r2, r3⟩ := H3.out D.out (by omega)
        have R1 := Lib.hid r1
        have R2 := Lib.hid r2
        have R3 := Lib.hid r3
        clear r1 r2 r3
        by_cases h0 : k = 0
        · subst h0
          go_wp2
          go_ret
          exact ⟨ret_bool (R1.out (by first | rfl | trivial)), rfl⟩
        · obtain ⟨g, rfl⟩ := HB.out (by omega)
          have hc := HC.out g rfl (k - 1) (by omega)
          have hk0 : 0 < k := by omega
          by_cases hz : f (k - 1) = 0
          · go_wp2
            go_ret
            exact ⟨ret_bool (by rw [← R2.out hz h0]; simp; omega), rfl⟩
          · go_wp2
            go_ret
            exact ⟨ret_bool (by rw [← R3.out hz]; simp [hz]), rfl⟩

theorem l1In_yes (n lo hi : Int) (w : World) (h1 : lo ≤ n) (h2 : n ≤ hi) : Calls Tryd.prog 18 #[.int .i64 n, .int .i64 lo, .int .i64 hi] w fun e w' => e = .returned (.bool true) ∧ w = w' := by
  go_enter Tryd.func18, Tryd.ntmps18
  go_wp2
  go_ret
  exact ⟨rfl, rfl⟩
theorem l1In_no (n lo hi : Int) (w : World) (h : n < lo ∨ hi < n) : Calls Tryd.prog 18 #[.int .i64 n, .int .i64 lo, .int .i64 hi] w fun e w' => e = .returned (.bool false) ∧ w = w' := by
  by_cases h1 : lo ≤ n
  · have hd : decide (n ≤ hi) = false := decide_eq_false (by omega)
    have h2 : ¬ n ≤ hi := by omega
    clear h
    go_enter Tryd.func18, Tryd.ntmps18
    go_wp2
    go_ret
    exact ⟨rfl, rfl⟩
  · clear h
    go_enter Tryd.func18, Tryd.ntmps18
    go_wp2
    go_ret
    exact ⟨rfl, rfl⟩

theorem sLongValid_any (lo : Nat) (ao : Option Addr) (cap : Nat) (xs : List Int) (w : World) (h : Row w lo ao cap xs) : Calls Tryd.prog 10 #[.slice ao xs.length cap] w fun e w' => e = .returned (.bool (lv xs)) ∧ w = w' := by
  obtain ⟨hlc, hcap⟩ := h.len_lt
  have H := Lib.hid h
  clear h
  obtain ⟨f, hf⟩ : ∃ f : Nat → Int, ∀ j, f j = xs.getD j 0 := ⟨_, fun _ => rfl⟩
  have F := Lib.hid hf
  clear hf
  have H1 : Hid (60 < xs.length → false = lv xs) := Lib.hid fun h => (lv_false_of_big h).symm
  have H2 : Hid (∀ j, j < xs.length → f j < 0 ∨ 9999 < f j → false = lv xs) := Lib.hid fun j hj h => (lv_false_of_digit hj (by rw [← F.out]; exact h)).symm
  have H3 : Hid ((∀ j, j < xs.length → 0 ≤ f j ∧ f j ≤ 9999) → xs.length ≤ 60 → (xs.length = 0 → true = lv xs) ∧ (f (xs.length - 1) ≤ 0 → xs.length ≠ 0 → false = lv xs) ∧ (0 < f (xs.length - 1) → true = lv xs)) := Lib.hid fun h h60 => by
    have e := lv_of_digits (xs := xs) (fun j hj => by rw [← F.out]; exact h j hj)
    rw [← F.out] at e
    refine ⟨fun h0 => ?_, fun h0 h1 => ?_, fun h0 => ?_⟩
    · rw [e]; simp [h60, h0]
    · have h2 := h (xs.length - 1) (by omega)
      have h3 : f (xs.length - 1) = 0 := by omega
      rw [e]; simp [h60, h3]; exact fun e => h1 (by rw [e]; rfl)
    · have h3 : f (xs.length - 1) ≠ 0 := by omega
      rw [e]; simp [h60, h3]
  have HC : Hid (∀ g, ao = some ⟨g, 0, none⟩ → ∀ j, j < xs.length → w.cell? ⟨g, j, none⟩ = some (.int .i64 (f j))) := Lib.hid fun g hg j hj => by
    have := H.out; rw [hg] at this; rw [this.cell hj, F.out]
  have HB : Hid (0 < xs.length → ∃ g, ao = some ⟨g, 0, none⟩) := Lib.hid fun h0 => by obtain ⟨g, hg, _⟩ := H.out.block h0; exact ⟨g, hg⟩
  clear H F
  generalize xs.length = n at *
  go_enter Tryd.func10, Tryd.ntmps10
  go_wp2
  go_loop [3] (fun i => ∃ k : Nat, k ≤ n ∧ i = .int .i64 k ∧ ∀ j, j < k → 0 ≤ f j ∧ f j ≤ 9999) (fun i => n - (intOf i).toNat)
  case atStart => exact ⟨0, by omega, rfl, fun j hj => by omega⟩
  case round =>
    obtain ⟨k, hk, rfl, hd⟩ := hrel
    have D := Lib.hid hd
    clear hd
    by_cases hkn : k < n
    · obtain ⟨g, rfl⟩ := HB.out (by omega)
      have hc := HC.out g rfl k hkn
      have hkn' : (k : Int) < (n : Int) := by omega
      by_cases h0 : 0 ≤ f k ∧ f k ≤ 9999
      · obtain ⟨h1, h2⟩ := h0
        go_wp2_with (first | (go_at_call 18; refine (l1In_yes _ _ _ _ h1 h2).mono ?_; rintro e w' ⟨rfl, rfl⟩))
        go_round
        case rel => exact ⟨k + 1, by omega, by go_num, fun j hj => by
          rcases Nat.lt_or_ge j k with h | h
          · exact D.out j h
          · obtain rfl : j = k := by omega
            omega⟩
        case measure => simp [intOf]; omega
      · have N : Hid (f k < 0 ∨ 9999 < f k) := Lib.hid (by omega)
        clear h0
        go_wp2_with (first | (go_at_call 18; refine (l1In_no _ _ _ _ N.out).mono ?_; rintro e w' ⟨rfl, rfl⟩))
        go_ret
        exact ⟨ret_bool (H2.out k hkn N.out), rfl⟩
    · obtain rfl : k = n := by omega
      by_cases hbig : 60 < k
      · have hbig' : ¬ (k : Int) ≤ 60 := by omega
        have hd : decide ((k : Int) ≤ 60) = false := decide_eq_false (by omega)
        go_wp2
        go_ret
        exact ⟨ret_bool (H1.out hbig), rfl⟩
      · have hbig' : (k : Int) ≤ 60 := by omega
        obtain ⟨r1, r2, r3⟩ := H3.out D.out (by omega)
        have R1 := Lib.hid r1
        have R2 := Lib.hid r2
        have R3 := Lib.hid r3
        clear r1 r2 r3
        by_cases h0 : k = 0
        · subst h0
          go_wp2
          go_ret
          exact ⟨ret_bool (R1.out (by first | rfl | trivial)), rfl⟩
        · obtain ⟨g, rfl⟩ := HB.out (by omega)
          have hc := HC.out g rfl (k - 1) (by omega)
          have hk0 : 0 < k := by omega
          by_cases hz : 0 < f (k - 1)
          · go_wp2
            go_ret
            exact ⟨ret_bool (R3.out hz), rfl⟩
          · have hd : decide (0 < f (k - 1)) = false := decide_eq_false hz
            go_wp2
            go_ret
            exact ⟨ret_bool (by rw [← R2.out (by omega) h0]; simp; omega), rfl⟩

end Go.Proofs.YtbnmkbkjoofekaaDoor.K

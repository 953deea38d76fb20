/- Contracts of the functions on whole numbers. -/
import Derived.Test.YtjlldfkkkfcohaaBase
import Derived.Test.YtjlldfkkkfcohaaMath
import Derived.Test.YtjlldfkkkfcohaaBits
namespace Go.Proofs.Ytjlldfkkkfcohaa.K
open Go.RowKit

theorem ret_int {k : IntKind} {a b : Int} (h : a = b) : Ending.returned (.int k a) = .returned (.int k b) := by rw [h]

theorem FloorDiv_out (a b : Int) (w : World) (h : (a < -1152921504606846976 ∨ 1152921504606846976 < a) ∨ b < 1 ∨ 1152921504606846976 < b) :
    Calls Try.prog 45 #[.int .i64 a, .int .i64 b] w fun e w' => e = .returned (.int .i64 0) ∧ w = w' := by
  by_cases h1 : -1152921504606846976 ≤ a
  · by_cases h2 : a ≤ 1152921504606846976
    · by_cases h3 : 1 ≤ b
      · have h4 : 1152921504606846976 < b := by omega
        clear h
        go_enter Try.func45, Try.ntmps45
        go_wp2
        go_ret
        exact ⟨rfl, rfl⟩
      · clear h
        go_enter Try.func45, Try.ntmps45
        go_wp2
        go_ret
        exact ⟨rfl, rfl⟩
    · clear h
      go_enter Try.func45, Try.ntmps45
      go_wp2
      go_ret
      exact ⟨rfl, rfl⟩
  · clear h
    go_enter Try.func45, Try.ntmps45
    go_wp2
    go_ret
    exact ⟨rfl, rfl⟩

theorem FloorDiv_in (a b : Int) (w : World) (ha : -1152921504606846976 ≤ a ∧ a ≤ 1152921504606846976) (hb : 1 ≤ b ∧ b ≤ 1152921504606846976) :
    Calls Try.prog 45 #[.int .i64 a, .int .i64 b] w fun e w' => e = .returned (.int .i64 (a / b)) ∧ w = w' := by
  obtain ⟨a1, a2⟩ := ha
  obtain ⟨b1, b2⟩ := hb
  by_cases h1 : 0 ≤ a
  · have h2 : 0 ≤ a % b := Int.emod_nonneg _ (by omega)
    go_enter Try.func45, Try.ntmps45
    go_wp2
    go_ret
    exact ⟨rfl, rfl⟩
  · have h3 := tdiv_neg_bounds (M := 1152921504606846976) (by omega) a1 (by omega) b1
    obtain ⟨h4, h5⟩ := h3
    by_cases h2 : a.tmod b < 0
    · have e := Lib.hid (floor_neg (by omega) b1 h2)
      go_enter Try.func45, Try.ntmps45
      go_wp2
      go_ret
      exact ⟨ret_int e.out, rfl⟩
    · have e := Lib.hid (floor_pos (by omega) b1 h2)
      go_enter Try.func45, Try.ntmps45
      go_wp2
      go_ret
      exact ⟨ret_int e.out, rfl⟩


theorem l1Floor_in (a b : Int) (w : World) (ha : -1152921504606846976 ≤ a ∧ a ≤ 1152921504606846976) (hb : 1 ≤ b) :
    Calls Try.prog 43 #[.int .i64 a, .int .i64 b] w fun e w' => e = .returned (.int .i64 (a / b)) ∧ w = w' := by
  obtain ⟨a1, a2⟩ := ha
  by_cases h1 : 0 ≤ a
  · have h2 : 0 ≤ a % b := Int.emod_nonneg _ (by omega)
    go_enter Try.func43, Try.ntmps43
    go_wp2
    go_ret
    exact ⟨rfl, rfl⟩
  · have h3 := tdiv_neg_bounds (M := 1152921504606846976) (by omega) a1 (by omega) hb
    obtain ⟨h4, h5⟩ := h3
    by_cases h2 : a.tmod b < 0
    · have e := Lib.hid (floor_neg (by omega) hb h2)
      go_enter Try.func43, Try.ntmps43
      go_wp2
      go_ret
      exact ⟨ret_int e.out, rfl⟩
    · have e := Lib.hid (floor_pos (by omega) hb h2)
      go_enter Try.func43, Try.ntmps43
      go_wp2
      go_ret
      exact ⟨ret_int e.out, rfl⟩











end Go.Proofs.Ytjlldfkkkfcohaa.K

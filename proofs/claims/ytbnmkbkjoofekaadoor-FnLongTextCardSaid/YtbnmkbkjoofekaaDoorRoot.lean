/- Contracts of the functions on lengths and roots. -/
import Derived.Test.YtbnmkbkjoofekaaDoorNum
import Derived.Test.YtbnmkbkjoofekaaDoorShelf
import Derived.Lib.ItoaNum
namespace Go.Proofs.YtbnmkbkjoofekaaDoor.K
open Go.RowKit

theorem blen (n : Nat) (h : n ≤ 1152921504606846976) : Lib.bitLen n ≤ 61 ∧ n < 2 ^ Lib.bitLen n ∧ (n ≠ 0 → 1 ≤ Lib.bitLen n ∧ 2 ^ (Lib.bitLen n - 1) ≤ n) := by
  by_cases h0 : n = 0
  · subst h0
    have e : Lib.bitLen 0 = 0 := Lib.bitLenAux_zero 64
    rw [e]
    exact ⟨by omega, by decide, fun h => absurd rfl h⟩
  · obtain ⟨h1, h2, h3⟩ := Lib.bitLenAux_bounds 64 n (by omega) h0
    have e : Lib.bitLen n = Lib.bitLenAux 64 n := rfl
    rw [e]
    refine ⟨?_, h3, fun _ => ⟨h1, h2⟩⟩
    rcases Nat.lt_or_ge 61 (Lib.bitLenAux 64 n) with h4 | h4
    · exfalso
      have h5 : 2 ^ 61 ≤ 2 ^ (Lib.bitLenAux 64 n - 1) := Nat.pow_le_pow_right (by omega) (by omega)
      omega
    · exact h4

theorem BitLength_in (n : Int) (w : World) (h1 : 0 ≤ n) (h2 : n ≤ 1152921504606846976) : Calls Tryd.prog 19 #[.int .i64 n] w fun e w' => e = .returned (.int .i64 (Lib.bitLen n.toNat)) ∧ w = w' := by
  go_enter Tryd.func19, Tryd.ntmps19
  go_wp2_with (first | (go_at_call 24; refine (Tryd.bits_Len64 _ _ (by omega) (by omega)).mono ?_; rintro e w' ⟨rfl, rfl⟩) | go_in)
  go_ret
  exact ⟨rfl, rfl⟩
theorem BitLength_out (n : Int) (w : World) (h : n < 0 ∨ 1152921504606846976 < n) : Calls Tryd.prog 19 #[.int .i64 n] w fun e w' => e = .returned (.int .i64 (-1)) ∧ w = w' := by
  by_cases h1 : 0 ≤ n
  · have h2 : 1152921504606846976 < n := by omega
    clear h
    go_enter Tryd.func19, Tryd.ntmps19
    go_wp2
    go_ret
    exact ⟨rfl, rfl⟩
  · clear h
    go_enter Tryd.func19, Tryd.ntmps19
    go_wp2
    go_ret
    exact ⟨rfl, rfl⟩


/-- Newton's first number is not below the root. -/
theorem first_root (n : Int) (h1 : 1 ≤ n) (h2 : n ≤ 1152921504606846976) : n < 2 ^ ((Lib.bitLen n.toNat + 1) / 2) * 2 ^ ((Lib.bitLen n.toNat + 1) / 2) ∧ (2 : Int) ^ ((Lib.bitLen n.toNat + 1) / 2) ≤ 2147483648 := by
  obtain ⟨a, b, _⟩ := blen n.toNat (by omega)
  generalize Lib.bitLen n.toNat = L at *
  refine ⟨?_, pow_le' (m := 31) (by omega)⟩
  rw [← Int.pow_add]
  have h3 : (2 : Int) ^ L ≤ 2 ^ ((L + 1) / 2 + (L + 1) / 2) := pow_le' (by omega)
  have h4 : ((n.toNat : Nat) : Int) < ((2 ^ L : Nat) : Int) := by omega
  have h5 : ((2 ^ L : Nat) : Int) = (2 : Int) ^ L := by simp
  omega
theorem first_cube (n : Int) (h1 : 1 ≤ n) (h2 : n ≤ 1152921504606846976) : n < 2 ^ ((Lib.bitLen n.toNat + 2) / 3) * 2 ^ ((Lib.bitLen n.toNat + 2) / 3) * 2 ^ ((Lib.bitLen n.toNat + 2) / 3) ∧ (2 : Int) ^ ((Lib.bitLen n.toNat + 2) / 3) ≤ 2097152 := by
  obtain ⟨a, b, _⟩ := blen n.toNat (by omega)
  generalize Lib.bitLen n.toNat = L at *
  refine ⟨?_, pow_le' (m := 21) (by omega)⟩
  rw [← Int.pow_add, ← Int.pow_add]
  have h3 : (2 : Int) ^ L ≤ 2 ^ ((L + 2) / 3 + (L + 2) / 3 + (L + 2) / 3) := pow_le' (by omega)
  have h4 : ((n.toNat : Nat) : Int) < ((2 ^ L : Nat) : Int) := by omega
  have h5 : ((2 ^ L : Nat) : Int) = (2 : Int) ^ L := by simp
  omega





/-- the root rounded to the nearest number -/
def near (n s : Int) : Int := if s < n - s * s then s + 1 else s
theorem sq_bounds {n s : Int} (n2 : n ≤ 1152921504606846976) (s0 : 0 ≤ s) (s1 : s * s ≤ n) : 0 ≤ s * s ∧ s ≤ 1073741824 := by
  refine ⟨Int.mul_nonneg s0 s0, ?_⟩
  have := sq_lt (n := n) (s := s) (r := 1073741825) (by omega) s1 (by omega)
  omega




end Go.Proofs.YtbnmkbkjoofekaaDoor.K

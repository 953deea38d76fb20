/- Texts of long numbers: their bytes, and what a limb of zero adds. No program here. -/
import Derived.Test.YtbnmkbkjoofekaaDoorLT2
namespace Go.Proofs.YtbnmkbkjoofekaaDoor.K
open Go.RowKit

theorem ofNat_digit (c : Nat) (h : c < 10) : 48 ≤ (UInt8.ofNat (48 + c)).toNat ∧ (UInt8.ofNat (48 + c)).toNat ≤ 57 := by
  rw [UInt8.toNat_ofNat']
  omega
theorem dec_digit (n : Nat) : ∀ b ∈ Lib.decDigits n, 48 ≤ b.toNat ∧ b.toNat ≤ 57 := by
  induction n using Nat.strongRecOn with
  | _ n ih =>
    intro b hb
    rw [Lib.decDigits] at hb
    split at hb
    · rw [List.mem_singleton.1 hb]
      exact ofNat_digit n (by omega)
    · rcases List.mem_append.1 hb with h | h
      · exact ih (n / 10) (by omega) b h
      · rw [List.mem_singleton.1 h]
        exact ofNat_digit _ (Nat.mod_lt _ (by decide))
/-- The first digit is not 0. -/
theorem dec_head (n : Nat) (h : 0 < n) : ∃ b l, Lib.decDigits n = b :: l ∧ b ≠ 48 := by
  induction n using Nat.strongRecOn with
  | _ n ih =>
    rw [Lib.decDigits]
    split
    · refine ⟨_, [], rfl, fun e => ?_⟩
      have := congrArg UInt8.toNat e
      rw [UInt8.toNat_ofNat'] at this
      simp at this
      omega
    · obtain ⟨b, l, e, hb⟩ := ih (n / 10) (by omega) (by omega)
      exact ⟨b, l ++ _, by rw [e]; rfl, hb⟩
theorem toN_cons0 (xs : List Int) : toN (0 :: xs) = 0 + 10000 * toN xs := by
  unfold toN
  simp [val]
theorem lv_cons0 {xs : List Int} (h : lv xs = true) (h0 : 0 < xs.length) (h1 : xs.length < 60) : lv (0 :: xs) = true := by
  obtain ⟨a, b, c⟩ := (lv_iff xs).1 h
  refine (lv_iff _).2 ⟨by simp; omega, ?_, ?_⟩
  · intro x hx
    rcases List.mem_cons.1 hx with rfl | hx
    · omega
    · exact b x hx
  · match xs, h0 with
    | y :: ys, _ => rw [List.getLast?_cons_cons]; exact c
/-- A limb of zero ahead is four zeros behind. -/
theorem ltext_zero {xs : List Int} (h : lv xs = true) (h0 : 0 < xs.length) (h1 : xs.length < 60) : ltext (0 :: xs) = ltext xs ++ [48, 48, 48, 48] := by
  have hp : 0 < toN xs := top_pos h (xs.length - 1) 0 (by omega)
  unfold ltext
  rw [if_pos (lv_cons0 h h0 h1), if_pos h, toN_cons0, ← decN_pos (n := 0 + 10000 * toN xs) (by omega), decN_limb _ _ hp (by decide), decN_pos hp]
  rfl

end Go.Proofs.YtbnmkbkjoofekaaDoor.K

/- Long numbers and their decimal digits: no program here. -/
import Derived.Test.YtbnmkbkjoofekaaDoorLB
import Derived.Lib.ItoaNum
namespace Go.Proofs.YtbnmkbkjoofekaaDoor.K
open Go.RowKit

/-- The four digits of a limb. -/
def dig4 (x : Nat) : List UInt8 := [UInt8.ofNat (48 + x / 1000 % 10), UInt8.ofNat (48 + x / 100 % 10), UInt8.ofNat (48 + x / 10 % 10), UInt8.ofNat (48 + x % 10)]
/-- The digits of n, none for 0. -/
def decN (n : Nat) : List UInt8 := if n = 0 then [] else Lib.decDigits n
theorem decN_pos {n : Nat} (h : 0 < n) : decN n = Lib.decDigits n := if_neg (by omega)
theorem decN_zero : decN 0 = [] := rfl
theorem decN_step (p c : Nat) (hc : c < 10) : decN (10 * p + c) = if p = 0 ∧ c = 0 then [] else decN p ++ [UInt8.ofNat (48 + c)] := by
  by_cases hp : p = 0
  · subst hp
    by_cases h0 : c = 0
    · subst h0; rfl
    · rw [if_neg (by omega), show 10 * 0 + c = c by omega, decN_pos (by omega), Lib.decDigits, dif_pos hc]; rfl
  · rw [if_neg (by omega), decN_pos (by omega), Lib.decDigits, dif_neg (by omega), show (10 * p + c) / 10 = p by omega, show (10 * p + c) % 10 = c by omega, decN_pos (by omega)]
theorem decN_more (p c : Nat) (hp : 0 < p) (hc : c < 10) : decN (10 * p + c) = decN p ++ [UInt8.ofNat (48 + c)] := by
  rw [decN_step p c hc, if_neg (by omega)]
theorem decN_limb (q x : Nat) (hq : 0 < q) (hx : x < 10000) : decN (x + 10000 * q) = decN q ++ dig4 x := by
  rw [show x + 10000 * q = 10 * (10 * (10 * (10 * q + x / 1000 % 10) + x / 100 % 10) + x / 10 % 10) + x % 10 by omega]
  rw [decN_more _ _ (by omega) (by omega), decN_more _ _ (by omega) (by omega), decN_more _ _ (by omega) (by omega), decN_more _ _ (by omega) (by omega)]
  simp [dig4]
theorem dec_tail (x : Nat) (hx : x < 10000) : Lib.decDigits (10000 + x) = 49 :: dig4 x := by
  have h := decN_limb 1 x (by omega) hx
  rw [show x + 10000 * 1 = 10000 + x by omega, decN_pos (by omega), decN_pos (by omega)] at h
  rw [h, Lib.decDigits, dif_pos (by omega)]
  rfl
/-- The number that the limbs from k on make. -/
def top (xs : List Int) (k : Nat) : Nat := toN (xs.drop k)
theorem top_all (xs : List Int) : top xs 0 = toN xs := rfl
theorem top_step {xs : List Int} {k : Nat} (hk : k < xs.length) : top xs k = (xs.getD k 0).toNat + 10000 * top xs (k + 1) := by
  unfold top toN
  rw [List.drop_eq_getElem_cons hk]
  simp only [List.map_cons, val, List.getD_eq_getElem?_getD, List.getElem?_eq_getElem hk, Option.getD_some]
theorem top_end (xs : List Int) : top xs xs.length = 0 := by unfold top; rw [List.drop_length]; rfl
theorem lv_digit {xs : List Int} (h : lv xs = true) {j : Nat} (hj : j < xs.length) : 0 ≤ xs.getD j 0 ∧ xs.getD j 0 < 10000 := by
  have := ((lv_iff xs).1 h).2.1 (xs.getD j 0) (by rw [List.getD_eq_getElem?_getD, List.getElem?_eq_getElem hj, Option.getD_some]; exact List.getElem_mem hj)
  exact this
theorem lv_last {xs : List Int} (h : lv xs = true) (hn : 0 < xs.length) : 0 < xs.getD (xs.length - 1) 0 := by
  have h1 := ((lv_iff xs).1 h).2.2
  rw [getLast_getD xs hn] at h1
  have h2 := lv_digit h (j := xs.length - 1) (by omega)
  have h3 : xs.getD (xs.length - 1) 0 ≠ 0 := fun e => h1 (by rw [e])
  omega
theorem top_pos {xs : List Int} (h : lv xs = true) : ∀ d k : Nat, k + d + 1 = xs.length → 0 < top xs k
  | 0, k, e => by
    have := lv_last h (by omega)
    rw [top_step (by omega)]
    rw [show xs.length - 1 = k by omega] at this
    omega
  | d + 1, k, e => by
    have := top_pos h d (k + 1) (by omega)
    rw [top_step (by omega)]
    omega
/-- The text of a long number. -/
def ltext (xs : List Int) : List UInt8 := if lv xs then Lib.decDigits (toN xs) else []
theorem dec_len (n k : Nat) (h : n < 10 ^ k) (hk : 1 ≤ k) : (Lib.decDigits n).length ≤ k := by
  rw [Lib.decDigits_length]
  induction k generalizing n with
  | zero => omega
  | succ k ih =>
    by_cases h10 : n < 10
    · rw [Lib.nDigits_small h10]; omega
    · rw [Lib.nDigits_big h10]
      have h2 : n / 10 < 10 ^ k := by rw [Nat.pow_succ] at h; omega
      have h3 : 1 ≤ k := by
        rcases Nat.eq_zero_or_pos k with e | e
        · subst e; simp at h2; omega
        · exact e
      have := ih (n / 10) h2 h3
      omega
theorem decN_len (n k : Nat) (h : n < 10 ^ k) (hk : 1 ≤ k) : (decN n).length ≤ k := by
  unfold decN
  split
  · simp
  · exact dec_len n k h hk
theorem top_lt {xs : List Int} (h : lv xs = true) (k : Nat) : top xs k < 10 ^ 240 := by
  have h1 := (lv_ofN_out h).2
  have h2 : top xs k ≤ toN xs := by
    clear h1
    induction k with
    | zero => exact Nat.le_refl _
    | succ k ih =>
      by_cases hk : k < xs.length
      · rw [top_step hk] at ih; omega
      · unfold top; rw [List.drop_eq_nil_of_le (by omega)]; exact Nat.zero_le _
  exact Nat.lt_of_le_of_lt h2 (by rw [show (10 : Nat) ^ 240 = 10000 ^ 60 by decide]; exact h1)

end Go.Proofs.YtbnmkbkjoofekaaDoor.K

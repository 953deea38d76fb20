/- Contracts of the functions that take or return formats and spans. -/
import Derived.Test.YtjlldfkkkfcohaaNum
namespace Go.Proofs.Ytjlldfkkkfcohaa.K
open Go.RowKit


theorem toSpan_any (a b : Int) (w : World) : Calls Try.prog 15 #[.agg #[.int .i64 a, .int .i64 b]] w fun e w' => e = .returned (.agg #[.int .i64 a, .int .i64 b]) ∧
    ((w.alloc (.cells #[.int .i64 a, .int .i64 b] 23)).alloc (.cells #[.int .i64 a, .int .i64 b] 24)).alloc (.cells #[.int .i64 a, .int .i64 b] 24) = w' := by
  go_enter Try.func15, Try.ntmps15
  go_wp2
  exact bodyPost_ret (v := .agg #[.int .i64 a, .int .i64 b]) (by simp [results, Try.results15, go_sem]) rfl ⟨rfl, rfl⟩




theorem l1In_yes (n lo hi : Int) (w : World) (h1 : lo ≤ n) (h2 : n ≤ hi) : Calls Try.prog 41 #[.int .i64 n, .int .i64 lo, .int .i64 hi] w fun e w' => e = .returned (.bool true) ∧ w = w' := by
  go_enter Try.func41, Try.ntmps41
  go_wp2
  go_ret
  exact ⟨rfl, rfl⟩
theorem l1In_no (n lo hi : Int) (w : World) (h : n < lo ∨ hi < n) : Calls Try.prog 41 #[.int .i64 n, .int .i64 lo, .int .i64 hi] w fun e w' => e = .returned (.bool false) ∧ w = w' := by
  by_cases h1 : lo ≤ n
  · have hd : decide (n ≤ hi) = false := decide_eq_false (by omega)
    clear h
    go_enter Try.func41, Try.ntmps41
    go_wp2
    go_ret
    exact ⟨rfl, rfl⟩
  · clear h
    go_enter Try.func41, Try.ntmps41
    go_wp2
    go_ret
    exact ⟨rfl, rfl⟩



/-- a number that can be stored in a valid format -/
def Fit (a b n : Int) : Prop := (1 ≤ a ∧ a ≤ 12 ∧ 0 ≤ b ∧ b ≤ 16) ∧ -2 ^ (a + b).toNat ≤ n ∧ n ≤ 2 ^ (a + b).toNat - 1
theorem Fit.valid {a b n : Int} (h : Fit a b n) : 1 ≤ a ∧ a ≤ 12 ∧ 0 ≤ b ∧ b ≤ 16 := h.1
theorem Fit.bnd {a b n : Int} (h : Fit a b n) : -268435456 ≤ n ∧ n ≤ 268435455 := by
  obtain ⟨⟨h1, h2, h3, h4⟩, h5, h6⟩ := h
  have := pow_le' (k := (a + b).toNat) (m := 28) (by omega)
  omega
theorem not_fit {a b n : Int} (h : ¬ Fit a b n) : (a < 1 ∨ 12 < a ∨ b < 0 ∨ 16 < b) ∨ (1 ≤ a ∧ a ≤ 12 ∧ 0 ≤ b ∧ b ≤ 16) ∧ (n < -2 ^ (a + b).toNat ∨ 2 ^ (a + b).toNat - 1 < n) := by
  unfold Fit at h
  omega


end Go.Proofs.Ytjlldfkkkfcohaa.K

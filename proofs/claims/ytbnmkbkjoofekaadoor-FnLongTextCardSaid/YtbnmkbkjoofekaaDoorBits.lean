/- '&' of two ints, the second one less than a power of two. -/
import Derived.Test.YtbnmkbkjoofekaaDoorMath
import Derived.WalkKit
namespace Go.Proofs.YtbnmkbkjoofekaaDoor.K
open Go.RowKit

theorem and_low (n : Int) (k : Nat) (hk : k ≤ 62) : bits .and .i64 n (2 ^ k - 1) = n % 2 ^ k := by
  show IntKind.i64.wrap ((BitVec.ofInt 64 n &&& BitVec.ofInt 64 (2 ^ k - 1)).toNat : Int) = _
  rw [and_mask n k hk]
  have h1 : (0 : Int) < 2 ^ k := Int.pow_pos (by decide)
  have h2 : (2 : Int) ^ k ≤ 4611686018427387904 := pow_le' (k := k) (m := 62) hk
  have h3 := Int.emod_nonneg n (b := 2 ^ k) (by omega)
  have h4 := Int.emod_lt_of_pos n h1
  exact IntWalk.i64_in _ (by omega)
theorem and_one (n : Int) : bits .and .i64 n 1 = n % 2 := and_low n 1 (by omega)
theorem and_16383 (n : Int) : bits .and .i64 n 16383 = n % 16384 := and_low n 14 (by omega)
theorem and_65535 (n : Int) : bits .and .i64 n 65535 = n % 65536 := and_low n 16 (by omega)

end Go.Proofs.YtbnmkbkjoofekaaDoor.K

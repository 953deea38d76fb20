/- Contracts of the functions on whole numbers. -/
import Derived.Test.YtbnmkbkjoofekaaDoorBase
import Derived.Test.YtbnmkbkjoofekaaDoorMath
import Derived.Test.YtbnmkbkjoofekaaDoorBits
namespace Go.Proofs.YtbnmkbkjoofekaaDoor.K
open Go.RowKit

theorem ret_int {k : IntKind} {a b : Int} (h : a = b) : Ending.returned (.int k a) = .returned (.int k b) := by rw [h]














end Go.Proofs.YtbnmkbkjoofekaaDoor.K

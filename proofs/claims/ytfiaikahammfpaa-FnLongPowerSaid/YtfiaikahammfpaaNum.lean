/- Contracts of the functions on whole numbers. -/
import Derived.Test.YtfiaikahammfpaaBase
import Derived.Test.YtfiaikahammfpaaMath
import Derived.Test.YtfiaikahammfpaaBits
namespace Go.Proofs.Ytfiaikahammfpaa.K
open Go.RowKit

theorem ret_int {k : IntKind} {a b : Int} (h : a = b) : Ending.returned (.int k a) = .returned (.int k b) := by rw [h]














end Go.Proofs.Ytfiaikahammfpaa.K

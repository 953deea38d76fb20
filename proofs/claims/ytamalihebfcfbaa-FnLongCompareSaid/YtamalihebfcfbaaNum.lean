/- Contracts of the functions on whole numbers. -/
import Derived.Test.YtamalihebfcfbaaBase
import Derived.Test.YtamalihebfcfbaaMath
import Derived.Test.YtamalihebfcfbaaBits
namespace Go.Proofs.Ytamalihebfcfbaa.K
open Go.RowKit

theorem ret_int {k : IntKind} {a b : Int} (h : a = b) : Ending.returned (.int k a) = .returned (.int k b) := by rw [h]














end Go.Proofs.Ytamalihebfcfbaa.K

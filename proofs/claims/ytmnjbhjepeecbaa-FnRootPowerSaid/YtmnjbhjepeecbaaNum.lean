/- Contracts of the functions on whole numbers. -/
import Derived.Test.YtmnjbhjepeecbaaBase
import Derived.Test.YtmnjbhjepeecbaaMath
import Derived.Test.YtmnjbhjepeecbaaBits
namespace Go.Proofs.Ytmnjbhjepeecbaa.K
open Go.RowKit

theorem ret_int {k : IntKind} {a b : Int} (h : a = b) : Ending.returned (.int k a) = .returned (.int k b) := by rw [h]














end Go.Proofs.Ytmnjbhjepeecbaa.K

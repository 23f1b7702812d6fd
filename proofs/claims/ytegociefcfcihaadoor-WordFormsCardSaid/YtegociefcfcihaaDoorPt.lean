/-
  Plain laws of sums of words.
  No condition: plain lemmas.
-/
import Derived.Test.YtegociefcfcihaaDoorPu
namespace Go.Fw
open Go
theorem sumN_reverse (xs : List Nat) : sumN xs.reverse = sumN xs := by
  unfold sumN
  rw [List.map_reverse]
  exact List.sum_reverse _
end Go.Fw

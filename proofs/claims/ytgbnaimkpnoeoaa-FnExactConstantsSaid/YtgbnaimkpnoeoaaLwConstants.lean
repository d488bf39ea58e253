/- The walk of the law FnExactConstants: it returns true, and nothing that was there turns. No condition. -/
import Derived.Test.YtgbnaimkpnoeoaaKit
namespace Go.Proofs.Ytgbnaimkpnoeoaa
open Go.RowKit

set_option maxHeartbeats 1000000 in
theorem fnExactConstants_walk (w : World) : Calls Try.prog 3 #[] w (Gives (.bool true) w) := by
  go_enter Try.func3, Try.ntmps3
  go_wp2
  go_ret
  exact ⟨rfl, Below.refl _ _⟩

end Go.Proofs.Ytgbnaimkpnoeoaa

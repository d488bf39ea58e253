/- The walk of the small test that the laws end with: the key of A in octave 4 is 57. No condition. -/
import Derived.Test.YtgbnaimkpnoeoaaPb
import Derived.Test.YtgbnaimkpnoeoaaKitb
namespace Go.Proofs.Ytgbnaimkpnoeoaa
open Go.RowKit

set_option maxHeartbeats 400000 in
theorem alive_any (w : World) : Calls Try.prog 27 #[] w (Gives (.bool true) w) := by
  have e : keyV 5 0 4 = 57 := rfl
  go_enter Try.func27, Try.ntmps27
  go_wp2_with (go_call (pitchKey_any _ _ _ _) as e w1 ⟨rfl, hb⟩)
  go_ret
  exact ⟨rfl, by go_grown⟩

end Go.Proofs.Ytgbnaimkpnoeoaa

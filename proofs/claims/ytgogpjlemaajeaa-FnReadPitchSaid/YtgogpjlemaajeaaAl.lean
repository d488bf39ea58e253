/- The walk of the small test that the laws end with: the key of A in octave 4 is 57. No condition. -/
import Derived.Test.YtgogpjlemaajeaaPb
import Derived.Test.YtgogpjlemaajeaaKitb
namespace Go.Proofs.Ytgogpjlemaajeaa
open Go.RowKit

set_option maxHeartbeats 400000 in
theorem alive_any (w : World) : Calls Try.prog 30 #[] w (Gives (.bool true) w) := by
  have e : keyV 5 0 4 = 57 := rfl
  go_enter Try.func30, Try.ntmps30
  go_wp2_with (go_call (pitchKey_any _ _ _ _) as e w1 ⟨rfl, hb⟩)
  go_ret
  exact ⟨rfl, by go_grown⟩

end Go.Proofs.Ytgogpjlemaajeaa

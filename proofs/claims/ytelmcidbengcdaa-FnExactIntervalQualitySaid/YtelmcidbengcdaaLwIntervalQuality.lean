/- The walk of the law FnExactIntervalQuality: it returns true, and nothing that was there turns. No condition. -/
import Derived.Test.YtelmcidbengcdaaIb
namespace Go.Proofs.Ytelmcidbengcdaa
open Go.RowKit

set_option maxHeartbeats 400000 in
theorem fnExactIntervalQuality_walk (s h : Int) (w : World) (_ : (Lit.int .i64 s).wf = true) (_ : (Lit.int .i64 h).wf = true) :
    Calls Try.prog 4 #[.agg #[.int .i64 s, .int .i64 h]] w (Gives (.bool true) w) := by
  go_enter Try.func4, Try.ntmps4
  go_wp2_with ((first | go_call (toInterval_any _ _ _) as e w1 ⟨rfl, hb⟩ | go_call (intervalQuality_any _ _ _) as e w1 ⟨rfl, hb⟩ | go_call (specIntervalQuality_any _ _ _) as e w1 ⟨rfl, hb⟩); obtain ⟨hB, hz, hc, hf⟩ := after (w := w) (n := w.heap.size) hb (by go_grown) (by go_size) (by go_size))
  go_ret
  exact ⟨rfl, hB⟩
end Go.Proofs.Ytelmcidbengcdaa

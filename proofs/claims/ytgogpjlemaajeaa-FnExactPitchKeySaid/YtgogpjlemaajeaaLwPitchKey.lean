/- The walk of the law FnExactPitchKey: it returns true, and nothing that was there turns. No condition. -/
import Derived.Test.YtgogpjlemaajeaaPb
namespace Go.Proofs.Ytgogpjlemaajeaa
open Go.RowKit

set_option maxHeartbeats 400000 in
theorem fnExactPitchKey_walk (s a o : Int) (w : World) (_ : (Lit.int .i64 s).wf = true) (_ : (Lit.int .i64 a).wf = true) (_ : (Lit.int .i64 o).wf = true) :
    Calls Try.prog 5 #[.agg #[.int .i64 s, .int .i64 a, .int .i64 o]] w (Gives (.bool true) w) := by
  go_enter Try.func5, Try.ntmps5
  go_wp2_with ((first | go_call (toPitch_any _ _ _ _) as e w1 ⟨rfl, hb⟩ | go_call (pitchKey_any _ _ _ _) as e w1 ⟨rfl, hb⟩ | go_call (specPitchKey_any _ _ _ _) as e w1 ⟨rfl, hb⟩); obtain ⟨hB, hz, hc, hf⟩ := after (w := w) (n := w.heap.size) hb (by go_grown) (by go_size) (by go_size))
  go_ret
  exact ⟨rfl, hB⟩
end Go.Proofs.Ytgogpjlemaajeaa

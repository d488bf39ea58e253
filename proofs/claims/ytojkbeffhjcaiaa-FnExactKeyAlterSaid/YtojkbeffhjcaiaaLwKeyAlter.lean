/- The walk of the law FnExactKeyAlter: it returns true, and nothing that was there turns. No condition. -/
import Derived.Test.YtojkbeffhjcaiaaKa
namespace Go.Proofs.Ytojkbeffhjcaiaa
open Go.RowKit

set_option maxHeartbeats 1000000 in
theorem fnExactKeyAlter_walk (f s : Int) (w : World) (_ : (Lit.int .i64 f).wf = true) (_ : (Lit.int .i64 s).wf = true) :
    Calls Try.prog 3 #[.int .i64 f, .int .i64 s] w (Gives (.bool true) w) := by
  go_enter Try.func3, Try.ntmps3
  go_wp2_with fail
  go_call (specKeyAlter_any _ _ _) as e w1 ⟨rfl, hb1⟩
  have hB1 := below_pure (w := w) (by go_grown) hb1
  have s1 := hB1.size
  obtain ⟨hc1, hf1⟩ := bcell hb1
  clear hb1
  go_wp2_with fail
  go_call (keyAlter_any _ _ _) as e w2 ⟨rfl, hb2⟩
  have hB2 := below_pure (w := w) (by go_grown) hb2
  have s2 := hB2.size
  obtain ⟨hc2, hf2⟩ := bcell hb2
  clear hb2
  go_wp2
  go_ret
  exact ⟨rfl, by go_grown⟩
end Go.Proofs.Ytojkbeffhjcaiaa

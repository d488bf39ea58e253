/- The walk of the law FnExactKeyTonic: it returns true, and nothing that was there turns. No condition. -/
import Derived.Test.YtojkbeffhjcaiaaKb
namespace Go.Proofs.Ytojkbeffhjcaiaa
open Go.RowKit

set_option maxHeartbeats 1000000 in
theorem fnExactKeyTonic_walk (f : Int) (m : Bool) (w : World) (_ : (Lit.int .i64 f).wf = true) :
    Calls Try.prog 5 #[.int .i64 f, .bool m] w (Gives (.bool true) w) := by
  go_enter Try.func5, Try.ntmps5
  go_wp2_with fail
  go_call (specKeyTonic_any _ _ _) as e w1 ⟨rfl, hb1⟩
  have hB1 := below_pure (w := w) (by go_grown) hb1
  have s1 := hB1.size
  obtain ⟨hc1, hf1⟩ := bcell hb1
  clear hb1
  go_wp2_with fail
  go_call (keyTonic_any _ _ _) as e w2 ⟨rfl, hb2⟩
  have hB2 := below_pure (w := w) (by go_grown) hb2
  have s2 := hB2.size
  have z1_0_2 : w1.heap.size < w2.heap.size := Nat.lt_of_lt_of_le (by go_size) hb2.size
  obtain ⟨hc2, hf2⟩ := bcell hb2
  clear hb2
  go_wp2_with fail
  go_call (eqPitch_same _ _ _ _) as e w3 ⟨rfl, hb3⟩
  have hB3 := below_pure (w := w) (by go_grown) hb3
  have s3 := hB3.size
  have z1_0_3 : w1.heap.size < w3.heap.size := Nat.lt_of_lt_of_le (by go_size) hb3.size
  have z2_0_3 : w2.heap.size < w3.heap.size := Nat.lt_of_lt_of_le (by go_size) hb3.size
  obtain ⟨hc3, hf3⟩ := bcell hb3
  clear hb3
  go_wp2
  go_ret
  exact ⟨rfl, by go_grown⟩
end Go.Proofs.Ytojkbeffhjcaiaa

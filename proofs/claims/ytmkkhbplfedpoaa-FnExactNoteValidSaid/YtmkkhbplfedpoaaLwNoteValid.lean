/- The walk of the law FnExactNoteValid: it returns true, and nothing that was there turns. No condition. -/
import Derived.Test.YtmkkhbplfedpoaaVb
namespace Go.Proofs.Ytmkkhbplfedpoaa
open Go.RowKit

set_option maxHeartbeats 1000000 in
theorem fnExactNoteValid_walk (r : Bool) (s a o t : Int) (d : Bool) (w : World) (_ : (Lit.int .i64 s).wf = true) (_ : (Lit.int .i64 a).wf = true) (_ : (Lit.int .i64 o).wf = true) (_ : (Lit.int .i64 t).wf = true) :
    Calls Try.prog 3 #[.agg #[.bool r, .int .i64 s, .int .i64 a, .int .i64 o, .int .i64 t, .bool d]] w (Gives (.bool true) w) := by
  go_enter Try.func3, Try.ntmps3
  go_wp2_with fail
  go_call (toNote_any _ _ _ _ _ _ _) as e w1 ⟨rfl, hb1⟩
  have hB1 := below_pure (w := w) (by go_grown) hb1
  have s1 := hB1.size
  have z0_0_1 : w.heap.size < w1.heap.size := Nat.lt_of_lt_of_le (by go_size) hb1.size
  obtain ⟨hc1, hf1⟩ := bcell hb1
  clear hb1
  go_wp2_with fail
  go_call (specNoteValid_any _ _ _ _ _ _ _) as e w2 ⟨rfl, hb2⟩
  have hB2 := below_pure (w := w) (by go_grown) hb2
  have s2 := hB2.size
  have z0_0_2 : w.heap.size < w2.heap.size := Nat.lt_of_lt_of_le (by go_size) hb2.size
  obtain ⟨hc2, hf2⟩ := bcell hb2
  clear hb2
  go_wp2_with fail
  go_call (toNote_any _ _ _ _ _ _ _) as e w3 ⟨rfl, hb3⟩
  have hB3 := below_pure (w := w) (by go_grown) hb3
  have s3 := hB3.size
  have z0_0_3 : w.heap.size < w3.heap.size := Nat.lt_of_lt_of_le (by go_size) hb3.size
  obtain ⟨hc3, hf3⟩ := bcell hb3
  clear hb3
  go_wp2_with fail
  go_call (noteValid_any _ _ _ _ _ _ _) as e w4 ⟨rfl, hb4⟩
  have hB4 := below_pure (w := w) (by go_grown) hb4
  have s4 := hB4.size
  have z0_0_4 : w.heap.size < w4.heap.size := Nat.lt_of_lt_of_le (by go_size) hb4.size
  obtain ⟨hc4, hf4⟩ := bcell hb4
  clear hb4
  go_wp2
  go_ret
  exact ⟨rfl, by go_grown⟩
end Go.Proofs.Ytmkkhbplfedpoaa

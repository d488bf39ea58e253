/- The walks of the ticks of values. No condition. -/
import Derived.Test.YtgbnaimkpnoeoaaLa
namespace Go.Proofs.Ytgbnaimkpnoeoaa
open Go.RowKit

set_option maxHeartbeats 4000000 in
theorem ticksOf_any (b d t : Int) (w : World) : Calls Try.prog 17 #[.agg #[.int .i64 b, .int .i64 d, .int .i64 t]] w (Gives (.int .i64 (tickV b d t)) w) := by
  cases hv : valB b d t
  · have HR := Lib.hid (tickV_f hv)
    go_enter Try.func17, Try.ntmps17
    go_wp2_with (go_at_call 15; go_call (valueValid_any _ _ _ _) as e w1 ⟨rfl, hb⟩; obtain ⟨hB, hz, hc, hf⟩ := after (w := w) (n := w.heap.size) hb (by go_grown) (by go_size) (by go_size))
    go_ret
    exact ⟨by rw [HR.out]; rfl, hB⟩
  have HT := Lib.hid (tickV_t hv)
  have hv' := hv
  unfold valB at hv'
  rw [Bool.and_eq_true, Bool.and_eq_true] at hv'
  obtain ⟨⟨g1, g2⟩, g3⟩ := hv'
  have g4 := inR_t g2
  have i0 : ∀ W, (Instr.index 43 (.agg #[.int .i64 4, .int .i64 6, .int .i64 7]) (.int .i64 0)).run Try.prog W = .ok (.int .i64 4) W := fun _ => by kernel_rfl
  have i1 : ∀ W, (Instr.index 43 (.agg #[.int .i64 4, .int .i64 6, .int .i64 7]) (.int .i64 1)).run Try.prog W = .ok (.int .i64 6) W := fun _ => by kernel_rfl
  have i2 : ∀ W, (Instr.index 43 (.agg #[.int .i64 4, .int .i64 6, .int .i64 7]) (.int .i64 2)).run Try.prog W = .ok (.int .i64 7) W := fun _ => by kernel_rfl
  obtain rfl | rfl | rfl : d = 0 ∨ d = 1 ∨ d = 2 := by omega
  all_goals
    clear g2 g4
    obtain rfl | rfl | rfl | rfl | rfl := base_cases g1
    all_goals
      clear g1
      obtain rfl | rfl := tup_cases g3
      all_goals
        clear g3
        go_enter Try.func17, Try.ntmps17
        go_wp2_with (go_at_call 15; go_call (valueValid_any _ _ _ _) as e w1 ⟨rfl, hb⟩; obtain ⟨hB, hz, hc, hf⟩ := after (w := w) (n := w.heap.size) hb (by go_grown) (by go_size) (by go_size))
        go_quiet (fail)
        go_wp2
        go_ret
        exact ⟨by rw [HT.out]; rfl, below_drewN hB _⟩

set_option maxHeartbeats 4000000 in
theorem l4Ticks_any (b d t : Int) (hv : valB b d t = true) (w : World) : Calls Try.prog 34 #[.agg #[.int .i64 b, .int .i64 d, .int .i64 t]] w (Gives (.int .i64 (tick b d t)) w) := by
  have hv' := hv
  unfold valB at hv'
  rw [Bool.and_eq_true, Bool.and_eq_true] at hv'
  obtain ⟨⟨g1, g2⟩, g3⟩ := hv'
  have g4 := inR_t g2
  clear hv
  obtain rfl | rfl | rfl : d = 0 ∨ d = 1 ∨ d = 2 := by omega
  all_goals
    clear g2 g4
    obtain rfl | rfl | rfl | rfl | rfl := base_cases g1
    all_goals
      clear g1
      obtain rfl | rfl := tup_cases g3
      all_goals
        clear g3
        go_enter Try.func34, Try.ntmps34
        go_wp2
        go_ret
        exact ⟨rfl, by go_grown⟩

set_option maxHeartbeats 4000000 in
theorem specTicksOf_any (b d t : Int) (w : World) : Calls Try.prog 16 #[.agg #[.int .i64 b, .int .i64 d, .int .i64 t]] w (Gives (.int .i64 (tickV b d t)) w) := by
  cases hv : valB b d t
  · have HR := Lib.hid (tickV_f hv)
    go_enter Try.func16, Try.ntmps16
    go_wp2_with (go_at_call 13; go_call (specValueValid_any _ _ _ _) as e w1 ⟨rfl, hb⟩; obtain ⟨hB, hz, hc, hf⟩ := after (w := w) (n := w.heap.size) hb (by go_grown) (by go_size) (by go_size))
    go_ret
    exact ⟨by rw [HR.out]; rfl, hB⟩
  · have HR := Lib.hid (tickV_t hv)
    go_enter Try.func16, Try.ntmps16
    go_wp2_with ((first | (go_at_call 13; go_call (specValueValid_any _ _ _ _) as e w1 ⟨rfl, hb⟩) | (go_at_call 34; go_call (l4Ticks_any _ _ _ hv _) as e w1 ⟨rfl, hb⟩)); obtain ⟨hB, hz, hc, hf⟩ := after (w := w) (n := w.heap.size) hb (by go_grown) (by go_size) (by go_size))
    go_ret
    exact ⟨by rw [HR.out]; rfl, hB⟩

set_option maxHeartbeats 400000 in
theorem toValue_any (b d t : Int) (w : World) : Calls Try.prog 14 #[.agg #[.int .i64 b, .int .i64 d, .int .i64 t]] w (Gives (.agg #[.int .i64 b, .int .i64 d, .int .i64 t]) w) := by
  go_enter Try.func14, Try.ntmps14
  go_wp2
  go_returns
  exact ⟨rfl, by go_grown⟩

set_option maxHeartbeats 400000 in
theorem eqValue_same (b d t : Int) (w : World) : Calls Try.prog 20 #[.agg #[.int .i64 b, .int .i64 d, .int .i64 t], .agg #[.int .i64 b, .int .i64 d, .int .i64 t]] w (Gives (.bool true) w) := by
  go_enter Try.func20, Try.ntmps20
  go_wp2
  go_ret
  exact ⟨rfl, by go_grown⟩

end Go.Proofs.Ytgbnaimkpnoeoaa

/- The walks of the functions on places and keys of pitches. No condition. -/
import Derived.Test.YtgbnaimkpnoeoaaPa
import Derived.Deep.QuietTactic
import Derived.BigQuiet
import Derived.Deep.RegionHeld3
namespace Go.Proofs.Ytgbnaimkpnoeoaa
open Go.RowKit

set_option maxHeartbeats 400000 in
theorem stepHalves_any (s : Int) (h0 : 0 ≤ s) (h6 : s ≤ 6) (w : World) :
    Calls Try.prog 45 #[.int .i64 s] w fun e w' => e = .returned (.int .i64 (half s)) ∧ w = w' := by
  have i0 : ∀ w, (Instr.index 57 (.agg #[.int .i64 0, .int .i64 2, .int .i64 4, .int .i64 5, .int .i64 7, .int .i64 9, .int .i64 11]) (.int .i64 0)).run Try.prog w = .ok (.int .i64 0) w := fun _ => by kernel_rfl
  have i1 : ∀ w, (Instr.index 57 (.agg #[.int .i64 0, .int .i64 2, .int .i64 4, .int .i64 5, .int .i64 7, .int .i64 9, .int .i64 11]) (.int .i64 1)).run Try.prog w = .ok (.int .i64 2) w := fun _ => by kernel_rfl
  have i2 : ∀ w, (Instr.index 57 (.agg #[.int .i64 0, .int .i64 2, .int .i64 4, .int .i64 5, .int .i64 7, .int .i64 9, .int .i64 11]) (.int .i64 2)).run Try.prog w = .ok (.int .i64 4) w := fun _ => by kernel_rfl
  have i3 : ∀ w, (Instr.index 57 (.agg #[.int .i64 0, .int .i64 2, .int .i64 4, .int .i64 5, .int .i64 7, .int .i64 9, .int .i64 11]) (.int .i64 3)).run Try.prog w = .ok (.int .i64 5) w := fun _ => by kernel_rfl
  have i4 : ∀ w, (Instr.index 57 (.agg #[.int .i64 0, .int .i64 2, .int .i64 4, .int .i64 5, .int .i64 7, .int .i64 9, .int .i64 11]) (.int .i64 4)).run Try.prog w = .ok (.int .i64 7) w := fun _ => by kernel_rfl
  have i5 : ∀ w, (Instr.index 57 (.agg #[.int .i64 0, .int .i64 2, .int .i64 4, .int .i64 5, .int .i64 7, .int .i64 9, .int .i64 11]) (.int .i64 5)).run Try.prog w = .ok (.int .i64 9) w := fun _ => by kernel_rfl
  have i6 : ∀ w, (Instr.index 57 (.agg #[.int .i64 0, .int .i64 2, .int .i64 4, .int .i64 5, .int .i64 7, .int .i64 9, .int .i64 11]) (.int .i64 6)).run Try.prog w = .ok (.int .i64 11) w := fun _ => by kernel_rfl
  obtain rfl | rfl | rfl | rfl | rfl | rfl | rfl : s = 0 ∨ s = 1 ∨ s = 2 ∨ s = 3 ∨ s = 4 ∨ s = 5 ∨ s = 6 := by omega
  all_goals
    go_enter Try.func45, Try.ntmps45
    go_wp2
    go_ret
    exact ⟨rfl, rfl⟩

set_option maxHeartbeats 400000 in
theorem pitchKey_any (s a o : Int) (w : World) :
    Calls Try.prog 41 #[.agg #[.int .i64 s, .int .i64 a, .int .i64 o]] w (Gives (.int .i64 (keyV s a o)) w) := by
  cases hv : pitchB s a o
  · have HH := Lib.hid (keyV_f hv)
    go_enter Try.func41, Try.ntmps41
    go_wp2_with (go_call (pitchValid_any _ _ _ _) as e w1 ⟨rfl, hb⟩; obtain ⟨hB, hz, hc, hf⟩ := after (w := w) (n := w.heap.size) hb (by go_grown) (by go_size) (by go_size))
    go_ret
    exact ⟨by rw [HH.out]; rfl, hB⟩
  · have HH := Lib.hid (keyV_t hv)
    obtain ⟨b0, b1, b2, b3, b4, b5⟩ := pitchB_t hv
    obtain ⟨c0, c1⟩ := half_bd s
    go_enter Try.func41, Try.ntmps41
    go_wp2_with (go_call (pitchValid_any _ _ _ _) as e w1 ⟨rfl, hb⟩; obtain ⟨hB, hz, hc, hf⟩ := after (w := w) (n := w.heap.size) hb (by go_grown) (by go_size) (by go_size))
    go_quiet ((go_at_call 45; exact quiet_left (stepHalves_any _ (by omega) (by omega) _)))
    go_wp2
    go_ret
    exact ⟨by rw [HH.out]; rfl, below_drewN hB _⟩

end Go.Proofs.Ytgbnaimkpnoeoaa

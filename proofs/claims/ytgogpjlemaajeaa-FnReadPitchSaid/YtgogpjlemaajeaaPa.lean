/- The walks of the small functions on ranges and pitches. No condition. -/
import Derived.Test.YtgogpjlemaajeaaKit
namespace Go.Proofs.Ytgogpjlemaajeaa
open Go.RowKit

set_option maxHeartbeats 400000 in
theorem within_any (n lo hi : Int) (w : World) :
    Calls Try.prog 37 #[.int .i64 n, .int .i64 lo, .int .i64 hi] w fun e w' => e = .returned (.bool (inR n lo hi)) ∧ w = w' := by
  by_cases h1 : lo ≤ n <;> by_cases h2 : n ≤ hi
  all_goals
    go_enter Try.func37, Try.ntmps37
    go_wp2
    go_ret
    exact ⟨by simp [inR, h1, h2], rfl⟩

set_option maxHeartbeats 400000 in
theorem l1In_any (n lo hi : Int) (w : World) :
    Calls Try.prog 36 #[.int .i64 n, .int .i64 lo, .int .i64 hi] w fun e w' => e = .returned (.bool (inR n lo hi)) ∧ w = w' := by
  by_cases h1 : lo ≤ n <;> by_cases h2 : n ≤ hi
  all_goals
    go_enter Try.func36, Try.ntmps36
    go_wp2
    go_ret
    exact ⟨by simp [inR, h1, h2], rfl⟩

set_option maxHeartbeats 400000 in
theorem pitchValid_any (s a o : Int) (w : World) :
    Calls Try.prog 17 #[.agg #[.int .i64 s, .int .i64 a, .int .i64 o]] w (Gives (.bool (pitchB s a o)) w) := by
  cases h1 : inR s 0 6 <;> cases h2 : inR a (-2) 2 <;> cases h3 : inR o 0 8
  all_goals
    go_enter Try.func17, Try.ntmps17
    go_wp2_with (go_call (within_any _ _ _ _) as e w1 ⟨rfl, rfl⟩)
    go_ret
    exact ⟨by simp [pitchB, h1, h2, h3], by go_grown⟩

set_option maxHeartbeats 400000 in
theorem specPitchValid_any (s a o : Int) (w : World) :
    Calls Try.prog 15 #[.agg #[.int .i64 s, .int .i64 a, .int .i64 o]] w (Gives (.bool (pitchB s a o)) w) := by
  cases h1 : inR s 0 6 <;> cases h2 : inR a (-2) 2 <;> cases h3 : inR o 0 8
  all_goals
    go_enter Try.func15, Try.ntmps15
    go_wp2_with (go_call (l1In_any _ _ _ _) as e w1 ⟨rfl, rfl⟩)
    go_ret
    exact ⟨by simp [pitchB, h1, h2, h3], by go_grown⟩

set_option maxHeartbeats 400000 in
theorem toPitch_any (s a o : Int) (w : World) :
    Calls Try.prog 16 #[.agg #[.int .i64 s, .int .i64 a, .int .i64 o]] w (Gives (.agg #[.int .i64 s, .int .i64 a, .int .i64 o]) w) := by
  go_enter Try.func16, Try.ntmps16
  go_wp2
  go_returns
  exact ⟨rfl, by go_grown⟩
end Go.Proofs.Ytgogpjlemaajeaa

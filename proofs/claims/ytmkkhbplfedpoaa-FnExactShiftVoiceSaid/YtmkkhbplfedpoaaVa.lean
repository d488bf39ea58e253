/- The walks of the functions on single notes. No condition. -/
import Derived.Test.YtmkkhbplfedpoaaPb
import Derived.Test.YtmkkhbplfedpoaaKitb
namespace Go.Proofs.Ytmkkhbplfedpoaa
open Go.RowKit

def zeroB (s a o : Int) : Bool := s == 0 && a == 0 && o == 0
def noteB (r : Bool) (s a o t : Int) (d : Bool) : Bool := inR t 1 768 && (if r then zeroB s a o && !d else pitchB s a o)
theorem zero_t {s a o : Int} (h : zeroB s a o = true) : s = 0 ∧ a = 0 ∧ o = 0 := by
  unfold zeroB at h
  simp only [Bool.and_eq_true, beq_iff_eq] at h
  exact ⟨h.1.1, h.1.2, h.2⟩
theorem zero_pitch : pitchB 0 0 0 = true := by decide

set_option maxHeartbeats 2000000 in
theorem noteValid_any (r : Bool) (s a o t : Int) (d : Bool) (w : World) : Calls Try.prog 19 #[.agg #[.bool r, .int .i64 s, .int .i64 a, .int .i64 o, .int .i64 t, .bool d]] w (Gives (.bool (noteB r s a o t d)) w) := by
  cases h1 : inR t 1 768
  · have HR := Lib.hid (show noteB r s a o t d = false by unfold noteB; rw [h1]; rfl)
    go_enter Try.func19, Try.ntmps19
    go_wp2_with (go_at_call 49; go_call (within_any _ _ _ _) as e w1 ⟨rfl, rfl⟩)
    go_ret
    exact ⟨by rw [HR.out]; rfl, by go_grown⟩
  cases r
  · have HR := Lib.hid (show noteB false s a o t d = pitchB s a o by unfold noteB; rw [h1]; rfl)
    go_enter Try.func19, Try.ntmps19
    go_wp2_with (first | (go_at_call 49; go_call (within_any _ _ _ _) as e w1 ⟨rfl, rfl⟩) | (go_at_call 50; go_call (pitchValid_any _ _ _ _) as e w1 ⟨rfl, hb⟩; obtain ⟨hB, hz, hc, hf⟩ := after (w := w) (n := w.heap.size) hb (by go_grown) (by go_size) (by go_size)))
    go_ret
    exact ⟨by rw [HR.out]; rfl, hB⟩
  by_cases z1 : s = 0
  · subst z1
    by_cases z2 : a = 0
    · subst z2
      by_cases z3 : o = 0
      · subst z3
        cases d
        all_goals
          go_enter Try.func19, Try.ntmps19
          go_wp2_with (go_at_call 49; go_call (within_any _ _ _ _) as e w1 ⟨rfl, rfl⟩)
          go_ret
          exact ⟨by unfold noteB; rw [h1]; rfl, by go_grown⟩
      · have n1 : (o == 0) = false := by simp [z3]
        have HR := Lib.hid (show noteB true 0 0 o t d = false by unfold noteB zeroB; rw [h1, n1]; rfl)
        clear z3
        go_enter Try.func19, Try.ntmps19
        go_wp2_with (go_at_call 49; go_call (within_any _ _ _ _) as e w1 ⟨rfl, rfl⟩)
        go_ret
        exact ⟨by rw [HR.out]; rfl, by go_grown⟩
    · have n1 : (a == 0) = false := by simp [z2]
      have HR := Lib.hid (show noteB true 0 a o t d = false by unfold noteB zeroB; rw [h1, n1]; rfl)
      clear z2
      go_enter Try.func19, Try.ntmps19
      go_wp2_with (go_at_call 49; go_call (within_any _ _ _ _) as e w1 ⟨rfl, rfl⟩)
      go_ret
      exact ⟨by rw [HR.out]; rfl, by go_grown⟩
  · have n1 : (s == 0) = false := by simp [z1]
    have HR := Lib.hid (show noteB true s a o t d = false by unfold noteB zeroB; rw [h1, n1]; rfl)
    clear z1
    go_enter Try.func19, Try.ntmps19
    go_wp2_with (go_at_call 49; go_call (within_any _ _ _ _) as e w1 ⟨rfl, rfl⟩)
    go_ret
    exact ⟨by rw [HR.out]; rfl, by go_grown⟩

set_option maxHeartbeats 2000000 in
theorem specNoteValid_any (r : Bool) (s a o t : Int) (d : Bool) (w : World) : Calls Try.prog 17 #[.agg #[.bool r, .int .i64 s, .int .i64 a, .int .i64 o, .int .i64 t, .bool d]] w (Gives (.bool (noteB r s a o t d)) w) := by
  cases r
  · cases h1 : inR t 1 768
    · have HR := Lib.hid (show noteB false s a o t d = false by unfold noteB; rw [h1]; rfl)
      go_enter Try.func17, Try.ntmps17
      go_wp2_with (first | (go_at_call 46; go_call (l1In_any _ _ _ _) as e w1 ⟨rfl, rfl⟩) | (go_at_call 47; go_call (specPitchValid_any _ _ _ _) as e w1 ⟨rfl, hb⟩; obtain ⟨hB, hz, hc, hf⟩ := after (w := w) (n := w.heap.size) hb (by go_grown) (by go_size) (by go_size)))
      go_ret
      exact ⟨by rw [HR.out]; rfl, by go_grown⟩
    · have HR := Lib.hid (show noteB false s a o t d = pitchB s a o by unfold noteB; rw [h1]; rfl)
      go_enter Try.func17, Try.ntmps17
      go_wp2_with (first | (go_at_call 46; go_call (l1In_any _ _ _ _) as e w1 ⟨rfl, rfl⟩) | (go_at_call 47; go_call (specPitchValid_any _ _ _ _) as e w1 ⟨rfl, hb⟩; obtain ⟨hB, hz, hc, hf⟩ := after (w := w) (n := w.heap.size) hb (by go_grown) (by go_size) (by go_size)))
      go_ret
      exact ⟨by rw [HR.out]; rfl, hB⟩
  cases d
  · by_cases z1 : s = 0
    · subst z1
      by_cases z2 : a = 0
      · subst z2
        by_cases z3 : o = 0
        · subst z3
          cases h1 : inR t 1 768
          · have HR := Lib.hid (show noteB true 0 0 0 t false = false by unfold noteB; rw [h1]; rfl)
            go_enter Try.func17, Try.ntmps17
            go_wp2_with (first | (go_at_call 46; go_call (l1In_any _ _ _ _) as e w1 ⟨rfl, rfl⟩) | (go_at_call 47; go_call (specPitchValid_any _ _ _ _) as e w1 ⟨rfl, hb⟩; obtain ⟨hB, hz, hc, hf⟩ := after (w := w) (n := w.heap.size) hb (by go_grown) (by go_size) (by go_size)))
            go_ret
            exact ⟨by rw [HR.out]; rfl, by go_grown⟩
          · have HR := Lib.hid (show noteB true 0 0 0 t false = pitchB 0 0 0 by unfold noteB; rw [h1]; decide)
            go_enter Try.func17, Try.ntmps17
            go_wp2_with (first | (go_at_call 46; go_call (l1In_any _ _ _ _) as e w1 ⟨rfl, rfl⟩) | (go_at_call 47; go_call (specPitchValid_any _ _ _ _) as e w1 ⟨rfl, hb⟩; obtain ⟨hB, hz, hc, hf⟩ := after (w := w) (n := w.heap.size) hb (by go_grown) (by go_size) (by go_size)))
            go_ret
            exact ⟨by rw [HR.out]; rfl, hB⟩
        · have n1 : (o == 0) = false := by simp [z3]
          have HR := Lib.hid (show noteB true 0 0 o t false = false by unfold noteB zeroB; rw [n1]; simp)
          clear z3
          go_enter Try.func17, Try.ntmps17
          go_wp2_with (first | (go_at_call 46; go_call (l1In_any _ _ _ _) as e w1 ⟨rfl, rfl⟩) | (go_at_call 47; go_call (specPitchValid_any _ _ _ _) as e w1 ⟨rfl, hb⟩; obtain ⟨hB, hz, hc, hf⟩ := after (w := w) (n := w.heap.size) hb (by go_grown) (by go_size) (by go_size)))
          go_ret
          exact ⟨by rw [HR.out]; rfl, by go_grown⟩
      · have n1 : (a == 0) = false := by simp [z2]
        have HR := Lib.hid (show noteB true 0 a o t false = false by unfold noteB zeroB; rw [n1]; simp)
        clear z2
        go_enter Try.func17, Try.ntmps17
        go_wp2_with (first | (go_at_call 46; go_call (l1In_any _ _ _ _) as e w1 ⟨rfl, rfl⟩) | (go_at_call 47; go_call (specPitchValid_any _ _ _ _) as e w1 ⟨rfl, hb⟩; obtain ⟨hB, hz, hc, hf⟩ := after (w := w) (n := w.heap.size) hb (by go_grown) (by go_size) (by go_size)))
        go_ret
        exact ⟨by rw [HR.out]; rfl, by go_grown⟩
    · have n1 : (s == 0) = false := by simp [z1]
      have HR := Lib.hid (show noteB true s a o t false = false by unfold noteB zeroB; rw [n1]; simp)
      clear z1
      go_enter Try.func17, Try.ntmps17
      go_wp2_with (first | (go_at_call 46; go_call (l1In_any _ _ _ _) as e w1 ⟨rfl, rfl⟩) | (go_at_call 47; go_call (specPitchValid_any _ _ _ _) as e w1 ⟨rfl, hb⟩; obtain ⟨hB, hz, hc, hf⟩ := after (w := w) (n := w.heap.size) hb (by go_grown) (by go_size) (by go_size)))
      go_ret
      exact ⟨by rw [HR.out]; rfl, by go_grown⟩
  · have HR := Lib.hid (show noteB true s a o t true = false by unfold noteB; simp)
    go_enter Try.func17, Try.ntmps17
    go_wp2_with (first | (go_at_call 46; go_call (l1In_any _ _ _ _) as e w1 ⟨rfl, rfl⟩) | (go_at_call 47; go_call (specPitchValid_any _ _ _ _) as e w1 ⟨rfl, hb⟩; obtain ⟨hB, hz, hc, hf⟩ := after (w := w) (n := w.heap.size) hb (by go_grown) (by go_size) (by go_size)))
    go_ret
    exact ⟨by rw [HR.out]; rfl, by go_grown⟩

end Go.Proofs.Ytmkkhbplfedpoaa

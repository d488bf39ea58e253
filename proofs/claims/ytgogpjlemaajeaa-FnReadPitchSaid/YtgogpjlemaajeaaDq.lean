/- The walks of the draws: each opens a reader and draws; what it returns lies within bounds, and nothing old has turned. -/
import Derived.Test.YtgogpjlemaajeaaDp
import Derived.Test.YtgogpjlemaajeaaBytes
namespace Go.Proofs.Ytgogpjlemaajeaa
open Go.RowKit

/-- What a draw of a pitch out of a code leaves. -/
def DrawnPitch (w : World) (e : Ending) (w' : World) : Prop :=
  ∃ s a o : Int, e = .returned (.agg #[.int .i64 s, .int .i64 a, .int .i64 o]) ∧ (-9 ≤ s ∧ s ≤ 9 ∧ -9 ≤ a ∧ a ≤ 9 ∧ -9 ≤ o ∧ o ≤ 9) ∧ Below w.heap.size w w'

set_option maxHeartbeats 1000000 in
theorem drawPitchText_any (a : Option Addr) (len cap : Nat) (w : World) (h : Code' w a len cap) (hl : len ≤ 1048576) :
    Calls Try.prog 29 #[.slice a len cap] w (DrawnPitch w) := by
  obtain ⟨h1, h2, h3⟩ := h
  go_enter Try.func29, Try.ntmps29
  go_wp2_with fail
  refine (open_any a len cap _ (by first | exact h1 | exact (Code'.below ⟨h1, h2, h3⟩ (by go_grown)).1) hl h2 h3).mono ?_
  rintro e w1 ⟨R, rfl, hR, hb, hr⟩
  have hB1 := below_pure (w := w) (by go_grown) hb
  have z1 := size_pure (n := w.heap.size) hb (by simp)
  obtain ⟨hc, hf⟩ := bcell hb
  clear hb
  have hR' : w.heap.size < R := by simp at hR; omega
  clear hR
  go_wp2_with fail
  refine (l20Pitch_any R 0 _ _ hr (by omega) (by omega) (by omega)).mono ?_
  rintro e w2 ⟨s, x, o, rfl, hbd, D⟩
  have hB : Below w.heap.size w w2 := D.whole hB1 (by omega)
  have z2 := D.size
  obtain ⟨hc2, hf2⟩ := D.old
  clear D hB1 hr
  go_wp2_with fail
  refine bodyPost_ret (v := .agg #[.int .i64 s, .int .i64 x, .int .i64 o]) (by simp [results, Try.results29, go_sem, *]) rfl ⟨s, x, o, rfl, hbd, by go_grown⟩

set_option maxHeartbeats 1000000 in
theorem drawPitchValid_any (a : Option Addr) (len cap : Nat) (w : World) (h : Code' w a len cap) (hl : len ≤ 1048576) :
    Calls Try.prog 31 #[.slice a len cap] w (DrawnPitch w) := by
  obtain ⟨h1, h2, h3⟩ := h
  go_enter Try.func31, Try.ntmps31
  go_wp2_with fail
  refine (open_any a len cap _ (by first | exact h1 | exact (Code'.below ⟨h1, h2, h3⟩ (by go_grown)).1) hl h2 h3).mono ?_
  rintro e w1 ⟨R, rfl, hR, hb, hr⟩
  have hB1 := below_pure (w := w) (by go_grown) hb
  have z1 := size_pure (n := w.heap.size) hb (by simp)
  obtain ⟨hc, hf⟩ := bcell hb
  clear hb
  have hR' : w.heap.size < R := by simp at hR; omega
  clear hR
  go_wp2_with fail
  refine (l20Pitch_any R 0 _ _ hr (by omega) (by omega) (by omega)).mono ?_
  rintro e w2 ⟨s, x, o, rfl, hbd, D⟩
  have hB : Below w.heap.size w w2 := D.whole hB1 (by omega)
  have z2 := D.size
  obtain ⟨hc2, hf2⟩ := D.old
  clear D hB1 hr
  go_wp2_with fail
  refine bodyPost_ret (v := .agg #[.int .i64 s, .int .i64 x, .int .i64 o]) (by simp [results, Try.results31, go_sem, *]) rfl ⟨s, x, o, rfl, hbd, by go_grown⟩

set_option maxHeartbeats 1000000 in
theorem drawPitchPlace_any (a : Option Addr) (len cap : Nat) (w : World) (h : Code' w a len cap) (hl : len ≤ 1048576) :
    Calls Try.prog 32 #[.slice a len cap] w (DrawnPitch w) := by
  obtain ⟨h1, h2, h3⟩ := h
  go_enter Try.func32, Try.ntmps32
  go_wp2_with fail
  refine (open_any a len cap _ (by first | exact h1 | exact (Code'.below ⟨h1, h2, h3⟩ (by go_grown)).1) hl h2 h3).mono ?_
  rintro e w1 ⟨R, rfl, hR, hb, hr⟩
  have hB1 := below_pure (w := w) (by go_grown) hb
  have z1 := size_pure (n := w.heap.size) hb (by simp)
  obtain ⟨hc, hf⟩ := bcell hb
  clear hb
  have hR' : w.heap.size < R := by simp at hR; omega
  clear hR
  go_wp2_with fail
  refine (l20Pitch_any R 0 _ _ hr (by omega) (by omega) (by omega)).mono ?_
  rintro e w2 ⟨s, x, o, rfl, hbd, D⟩
  have hB : Below w.heap.size w w2 := D.whole hB1 (by omega)
  have z2 := D.size
  obtain ⟨hc2, hf2⟩ := D.old
  clear D hB1 hr
  go_wp2_with fail
  refine bodyPost_ret (v := .agg #[.int .i64 s, .int .i64 x, .int .i64 o]) (by simp [results, Try.results32, go_sem, *]) rfl ⟨s, x, o, rfl, hbd, by go_grown⟩

set_option maxHeartbeats 1000000 in
theorem drawPitchKey_any (a : Option Addr) (len cap : Nat) (w : World) (h : Code' w a len cap) (hl : len ≤ 1048576) :
    Calls Try.prog 33 #[.slice a len cap] w (DrawnPitch w) := by
  obtain ⟨h1, h2, h3⟩ := h
  go_enter Try.func33, Try.ntmps33
  go_wp2_with fail
  refine (open_any a len cap _ (by first | exact h1 | exact (Code'.below ⟨h1, h2, h3⟩ (by go_grown)).1) hl h2 h3).mono ?_
  rintro e w1 ⟨R, rfl, hR, hb, hr⟩
  have hB1 := below_pure (w := w) (by go_grown) hb
  have z1 := size_pure (n := w.heap.size) hb (by simp)
  obtain ⟨hc, hf⟩ := bcell hb
  clear hb
  have hR' : w.heap.size < R := by simp at hR; omega
  clear hR
  go_wp2_with fail
  refine (l20Pitch_any R 0 _ _ hr (by omega) (by omega) (by omega)).mono ?_
  rintro e w2 ⟨s, x, o, rfl, hbd, D⟩
  have hB : Below w.heap.size w w2 := D.whole hB1 (by omega)
  have z2 := D.size
  obtain ⟨hc2, hf2⟩ := D.old
  clear D hB1 hr
  go_wp2_with fail
  refine bodyPost_ret (v := .agg #[.int .i64 s, .int .i64 x, .int .i64 o]) (by simp [results, Try.results33, go_sem, *]) rfl ⟨s, x, o, rfl, hbd, by go_grown⟩

end Go.Proofs.Ytgogpjlemaajeaa

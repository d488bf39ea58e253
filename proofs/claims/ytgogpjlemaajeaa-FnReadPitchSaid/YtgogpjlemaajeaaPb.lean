/- The walks of the functions on places and keys of pitches. No condition. -/
import Derived.Test.YtgogpjlemaajeaaPa
import Derived.Deep.QuietTactic
import Derived.BigQuiet
import Derived.Deep.RegionHeld3
namespace Go.Proofs.Ytgogpjlemaajeaa
open Go.RowKit

set_option maxHeartbeats 400000 in
theorem stepHalves_any (s : Int) (h0 : 0 ≤ s) (h6 : s ≤ 6) (w : World) :
    Calls Try.prog 39 #[.int .i64 s] w fun e w' => e = .returned (.int .i64 (half s)) ∧ w = w' := by
  have i0 : ∀ w, (Instr.index 55 (.agg #[.int .i64 0, .int .i64 2, .int .i64 4, .int .i64 5, .int .i64 7, .int .i64 9, .int .i64 11]) (.int .i64 0)).run Try.prog w = .ok (.int .i64 0) w := fun _ => by kernel_rfl
  have i1 : ∀ w, (Instr.index 55 (.agg #[.int .i64 0, .int .i64 2, .int .i64 4, .int .i64 5, .int .i64 7, .int .i64 9, .int .i64 11]) (.int .i64 1)).run Try.prog w = .ok (.int .i64 2) w := fun _ => by kernel_rfl
  have i2 : ∀ w, (Instr.index 55 (.agg #[.int .i64 0, .int .i64 2, .int .i64 4, .int .i64 5, .int .i64 7, .int .i64 9, .int .i64 11]) (.int .i64 2)).run Try.prog w = .ok (.int .i64 4) w := fun _ => by kernel_rfl
  have i3 : ∀ w, (Instr.index 55 (.agg #[.int .i64 0, .int .i64 2, .int .i64 4, .int .i64 5, .int .i64 7, .int .i64 9, .int .i64 11]) (.int .i64 3)).run Try.prog w = .ok (.int .i64 5) w := fun _ => by kernel_rfl
  have i4 : ∀ w, (Instr.index 55 (.agg #[.int .i64 0, .int .i64 2, .int .i64 4, .int .i64 5, .int .i64 7, .int .i64 9, .int .i64 11]) (.int .i64 4)).run Try.prog w = .ok (.int .i64 7) w := fun _ => by kernel_rfl
  have i5 : ∀ w, (Instr.index 55 (.agg #[.int .i64 0, .int .i64 2, .int .i64 4, .int .i64 5, .int .i64 7, .int .i64 9, .int .i64 11]) (.int .i64 5)).run Try.prog w = .ok (.int .i64 9) w := fun _ => by kernel_rfl
  have i6 : ∀ w, (Instr.index 55 (.agg #[.int .i64 0, .int .i64 2, .int .i64 4, .int .i64 5, .int .i64 7, .int .i64 9, .int .i64 11]) (.int .i64 6)).run Try.prog w = .ok (.int .i64 11) w := fun _ => by kernel_rfl
  obtain rfl | rfl | rfl | rfl | rfl | rfl | rfl : s = 0 ∨ s = 1 ∨ s = 2 ∨ s = 3 ∨ s = 4 ∨ s = 5 ∨ s = 6 := by omega
  all_goals
    go_enter Try.func39, Try.ntmps39
    go_wp2
    go_ret
    exact ⟨rfl, rfl⟩

set_option maxHeartbeats 400000 in
theorem l1Natural_any (p : Int) (h0 : 0 ≤ p) (h1 : p ≤ 1000) (w : World) :
    Calls Try.prog 38 #[.int .i64 p] w (Gives (.int .i64 (natu p)) w) := by
  have hd : 0 ≤ p / 7 := by omega
  have hd' : p / 7 ≤ 1000 := by omega
  have hn : ¬ p < 0 := by omega
  have hcase : p % 7 = 0 ∨ p % 7 = 1 ∨ p % 7 = 2 ∨ p % 7 = 3 ∨ p % 7 = 4 ∨ p % 7 = 5 ∨ p % 7 = 6 := by omega
  rcases hcase with hr | hr | hr | hr | hr | hr | hr
  all_goals
    have HN : natu p = 12 * (p / 7) + half (p % 7) := rfl
    rw [hr] at HN
    have HH := Lib.hid HN
    clear HN
    go_enter Try.func38, Try.ntmps38
    go_wp2
    go_rounds 1
    go_ret
    exact ⟨by rw [HH.out]; simp [half], by go_grown⟩

set_option maxHeartbeats 400000 in
theorem pitchPlace_any (s a o : Int) (w : World) :
    Calls Try.prog 19 #[.agg #[.int .i64 s, .int .i64 a, .int .i64 o]] w (Gives (.int .i64 (placeV s a o)) w) := by
  cases hv : pitchB s a o
  · have HH := Lib.hid (placeV_f hv)
    go_enter Try.func19, Try.ntmps19
    go_wp2_with (go_call (pitchValid_any _ _ _ _) as e w1 ⟨rfl, hb⟩; obtain ⟨hB, hz, hc, hf⟩ := after (w := w) (n := w.heap.size) hb (by go_grown) (by go_size) (by go_size))
    go_ret
    exact ⟨by rw [HH.out]; rfl, hB⟩
  · have HH := Lib.hid (placeV_t hv)
    obtain ⟨b0, b1, b2, b3, b4, b5⟩ := pitchB_t hv
    go_enter Try.func19, Try.ntmps19
    go_wp2_with (go_call (pitchValid_any _ _ _ _) as e w1 ⟨rfl, hb⟩; obtain ⟨hB, hz, hc, hf⟩ := after (w := w) (n := w.heap.size) hb (by go_grown) (by go_size) (by go_size))
    go_ret
    exact ⟨by rw [HH.out]; rfl, hB⟩

set_option maxHeartbeats 400000 in
theorem specPitchPlace_any (s a o : Int) (w : World) :
    Calls Try.prog 18 #[.agg #[.int .i64 s, .int .i64 a, .int .i64 o]] w (Gives (.int .i64 (placeV s a o)) w) := by
  cases hv : pitchB s a o
  · have HH := Lib.hid (placeV_f hv)
    go_enter Try.func18, Try.ntmps18
    go_wp2_with (go_call (specPitchValid_any _ _ _ _) as e w1 ⟨rfl, hb⟩; obtain ⟨hB, hz, hc, hf⟩ := after (w := w) (n := w.heap.size) hb (by go_grown) (by go_size) (by go_size))
    go_ret
    exact ⟨by rw [HH.out]; rfl, hB⟩
  · have HH := Lib.hid (placeV_t hv)
    obtain ⟨b0, b1, b2, b3, b4, b5⟩ := pitchB_t hv
    go_enter Try.func18, Try.ntmps18
    go_wp2_with (go_call (specPitchValid_any _ _ _ _) as e w1 ⟨rfl, hb⟩; obtain ⟨hB, hz, hc, hf⟩ := after (w := w) (n := w.heap.size) hb (by go_grown) (by go_size) (by go_size))
    go_ret
    exact ⟨by rw [HH.out]; rfl, hB⟩

set_option maxHeartbeats 400000 in
theorem pitchKey_any (s a o : Int) (w : World) :
    Calls Try.prog 21 #[.agg #[.int .i64 s, .int .i64 a, .int .i64 o]] w (Gives (.int .i64 (keyV s a o)) w) := by
  cases hv : pitchB s a o
  · have HH := Lib.hid (keyV_f hv)
    go_enter Try.func21, Try.ntmps21
    go_wp2_with (go_call (pitchValid_any _ _ _ _) as e w1 ⟨rfl, hb⟩; obtain ⟨hB, hz, hc, hf⟩ := after (w := w) (n := w.heap.size) hb (by go_grown) (by go_size) (by go_size))
    go_ret
    exact ⟨by rw [HH.out]; rfl, hB⟩
  · have HH := Lib.hid (keyV_t hv)
    obtain ⟨b0, b1, b2, b3, b4, b5⟩ := pitchB_t hv
    obtain ⟨c0, c1⟩ := half_bd s
    go_enter Try.func21, Try.ntmps21
    go_wp2_with (go_call (pitchValid_any _ _ _ _) as e w1 ⟨rfl, hb⟩; obtain ⟨hB, hz, hc, hf⟩ := after (w := w) (n := w.heap.size) hb (by go_grown) (by go_size) (by go_size))
    go_quiet ((go_at_call 39; exact quiet_left (stepHalves_any _ (by omega) (by omega) _)))
    go_wp2
    go_ret
    exact ⟨by rw [HH.out]; rfl, below_drewN hB _⟩

set_option maxHeartbeats 400000 in
theorem specPitchKey_any (s a o : Int) (w : World) :
    Calls Try.prog 20 #[.agg #[.int .i64 s, .int .i64 a, .int .i64 o]] w (Gives (.int .i64 (keyV s a o)) w) := by
  cases hv : pitchB s a o
  · have HH := Lib.hid (keyV_f hv)
    go_enter Try.func20, Try.ntmps20
    go_wp2_with (go_call (specPitchValid_any _ _ _ _) as e w1 ⟨rfl, hb⟩; obtain ⟨hB, hz, hc, hf⟩ := after (w := w) (n := w.heap.size) hb (by go_grown) (by go_size) (by go_size))
    go_ret
    exact ⟨by rw [HH.out]; rfl, hB⟩
  · have HH := Lib.hid (keyV_t hv)
    obtain ⟨b0, b1, b2, b3, b4, b5⟩ := pitchB_t hv
    obtain ⟨c0, c1⟩ := natu_bd (7 * o + s) (by omega) (by omega)
    have HN := Lib.hid (natu_of s o b0 b1)
    go_enter Try.func20, Try.ntmps20
    go_wp2_with (go_call (specPitchValid_any _ _ _ _) as e w1 ⟨rfl, hb⟩; obtain ⟨hB, hz, hc, hf⟩ := after (w := w) (n := w.heap.size) hb (by go_grown) (by go_size) (by go_size))
    have C0 : w1.cell? ⟨w.heap.size, 0, none⟩ = some (.int .i64 s) := by simp [hc]
    have C1 : w1.cell? ⟨w.heap.size, 1, none⟩ = some (.int .i64 a) := by simp [hc]
    have C2 : w1.cell? ⟨w.heap.size, 2, none⟩ = some (.int .i64 o) := by simp [hc]
    clear hc hf hb
    have q1 : IntKind.i64.wrap (7 * o) = 7 * o := IntWalk.i64_in _ (by omega)
    have q2 : IntKind.i64.wrap (7 * o + s) = 7 * o + s := IntWalk.i64_in _ (by omega)
    have q3 : IntKind.i64.wrap (natu (7 * o + s) + a) = natu (7 * o + s) + a := IntWalk.i64_in _ (by omega)
    have q4 : 0 ≤ 7 * o + s := by omega
    have q5 : 7 * o + s ≤ 1000 := by omega
    go_region_held3 (fun w' => w'.cell? ⟨w.heap.size, 0, none⟩ = some (.int .i64 s) ∧ w'.cell? ⟨w.heap.size, 1, none⟩ = some (.int .i64 a) ∧ w'.cell? ⟨w.heap.size, 2, none⟩ = some (.int .i64 o) ∧ w.heap.size < w'.heap.size ∧ Below w.heap.size w w')
      (first | exact keepS3 hb2 ‹_› | exact ⟨C0, C1, C2, hz, hB⟩ | exact ⟨C0, C1, C2, hz, hB.drew⟩)
      (first | (go_at_call 38; refine (l1Natural_any _ q4 q5 _).mono ?_; rintro e w2 ⟨rfl, hb2⟩))
    all_goals
      go_split_ands
      go_wp2
      go_ret
      exact ⟨by rw [HH.out, ← HN.out]; rfl, by assumption⟩

set_option maxHeartbeats 400000 in
theorem eqPitch_same (s a o : Int) (w : World) :
    Calls Try.prog 24 #[.agg #[.int .i64 s, .int .i64 a, .int .i64 o], .agg #[.int .i64 s, .int .i64 a, .int .i64 o]] w (Gives (.bool true) w) := by
  go_enter Try.func24, Try.ntmps24
  go_wp2
  go_ret
  exact ⟨rfl, by go_grown⟩
end Go.Proofs.Ytgogpjlemaajeaa

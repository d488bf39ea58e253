/- The walk of the draw of a text: it opens a reader and draws; what it returns is short, and nothing old has turned. -/
import Derived.Test.YtgogpjlemaajeaaDq
import Derived.Test.YtgogpjlemaajeaaPt
namespace Go.Proofs.Ytgogpjlemaajeaa
open Go.RowKit

/-- What the draw of a text leaves. -/
def DrawnText (w : World) (e : Ending) (w' : World) : Prop := ∃ y : ByteArray, e = .returned (.string y) ∧ y.size ≤ 100 ∧ Below w.heap.size w w'
theorem txtL_len (s a o : Int) : (S (txtL s a o)).size ≤ 4 := by
  rw [S_size]
  unfold txtL
  cases hp : pitchB s a o
  · exact Nat.zero_le _
  · obtain ⟨h0, h6, ha, ha', ho, ho'⟩ := pitchB_t hp
    rw [if_pos rfl]
    unfold txt
    simp only [List.length_append, List.length_cons, List.length_nil, List.length_replicate]
    omega

set_option maxHeartbeats 4000000 in
set_option maxRecDepth 100000 in
theorem drawReadPitch_any (a : Option Addr) (len cap : Nat) (w : World) (h : Code' w a len cap) (hl : len ≤ 1048576) :
    Calls Try.prog 34 #[.slice a len cap] w (DrawnText w) := by
  obtain ⟨h1, h2, h3⟩ := h
  go_enter Try.func34, Try.ntmps34
  go_wp2_with fail
  refine (open_any a len cap _ (by first | exact h1 | exact (Code'.below (w := w) ⟨h1, h2, h3⟩ (by go_grown)).1) hl h2 h3).mono ?_
  rintro e w1 ⟨R, rfl, hR, hb, hr⟩
  have hB1 := below_pure (w := w) (by go_grown) hb
  clear hb
  have hR' : w.heap.size ≤ R := by (try simp at hR); omega
  clear hR
  have D1 := Dr.start hr
  go_wp2_with fail
  refine (l20Pitch_any R _ 0 _ D1.rd (by omega) (by omega) (by omega)).mono ?_
  rintro e w2 ⟨s, x, o, rfl, -, E⟩
  replace D1 := D1.pick E.1 E.2.1
  clear E
  go_wp2_with fail
  refine (specPitchText_any s x o _).mono ?_
  rintro e w3 ⟨rfl, hb⟩
  replace D1 := D1.below hb
  have hy := txtL_len s x o
  generalize S (txtL s x o) = y at *
  clear hb
  go_wp2_with fail
  refine (odd_any R _ 3 _ D1.rd (by omega) (by omega) (by omega)).mono ?_
  rintro e w4 ⟨b, rfl, -, g2, r2⟩
  replace D1 := D1.pick g2 r2
  clear g2 r2
  cases b
  · have hB : Below w.heap.size w w4 := D1.whole hB1 (by omega)
    clear D1 hB1 hr
    go_wp2_with fail
    go_ret
    exact ⟨y, rfl, by omega, hB⟩
  have hs := D1.rd.lt
  have z1 : ¬ 9223372036854775807 < y.size + 1 := by omega
  have z2 : ¬ 9223372036854775807 < 1 + y.size := by omega
  go_wp2_with fail
  refine (pick_any R _ 10 _ (D1.alloc _).rd (by omega) (by omega) (by omega)).mono ?_
  rintro e w5 ⟨v, rfl, v0, v1, -, g2, r2⟩
  replace v1 := v1 (by omega)
  have D2 := (D1.alloc _).pick g2 r2
  have A := (Blk.new _ _ _).grown g2 (fun e => by injection e; omega)
  have a0 := Blk.get (i := 0) A rfl
  have a1 := Blk.get (i := 1) A rfl
  have a2 := Blk.get (i := 2) A rfl
  have a3 := Blk.get (i := 3) A rfl
  have a4 := Blk.get (i := 4) A rfl
  have a5 := Blk.get (i := 5) A rfl
  have a6 := Blk.get (i := 6) A rfl
  have a7 := Blk.get (i := 7) A rfl
  have a8 := Blk.get (i := 8) A rfl
  have a9 := Blk.get (i := 9) A rfl
  have hB : Below w.heap.size w w5 := D2.whole hB1 (by omega)
  clear g2 r2 A D1 D2 hB1 hr
  have hv : v = 0 ∨ v = 1 ∨ v = 2 ∨ v = 3 ∨ v = 4 ∨ v = 5 ∨ v = 6 ∨ v = 7 ∨ v = 8 ∨ v = 9 := by omega
  rcases hv with rfl | rfl | rfl | rfl | rfl | rfl | rfl | rfl | rfl | rfl
  all_goals
    go_wp2_with fail
    go_ret
    exact ⟨_, rfl, by first | exact of_decide_eq_true rfl | (rw [ByteArray.size_append]; show _ + 1 ≤ 100; omega) | (rw [ByteArray.size_append]; show 1 + _ ≤ 100; omega), hB⟩

end Go.Proofs.Ytgogpjlemaajeaa

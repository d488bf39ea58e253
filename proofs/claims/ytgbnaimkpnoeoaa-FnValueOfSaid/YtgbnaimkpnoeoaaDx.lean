/- The walks of the draws of values, and of a number of ticks: each opens a reader and draws; nothing old has turned. -/
import Derived.Test.YtgbnaimkpnoeoaaDl
import Derived.Test.YtgbnaimkpnoeoaaLb
import Derived.Test.YtgbnaimkpnoeoaaBytes
namespace Go.Proofs.Ytgbnaimkpnoeoaa
open Go.RowKit

/-- What a draw of a value out of a code leaves. -/
def DrawnValue (w : World) (e : Ending) (w' : World) : Prop :=
  ∃ b d t : Int, e = .returned (.agg #[.int .i64 b, .int .i64 d, .int .i64 t]) ∧ Below w.heap.size w w'
/-- What a draw of a number out of a code leaves. -/
def DrawnInt (w : World) (e : Ending) (w' : World) : Prop := ∃ n : Int, e = .returned (.int .i64 n) ∧ Below w.heap.size w w'

set_option maxHeartbeats 1000000 in
theorem drawValueValid_any (a : Option Addr) (len cap : Nat) (w : World) (h : Code' w a len cap) (hl : len ≤ 1048576) :
    Calls Try.prog 26 #[.slice a len cap] w (DrawnValue w) := by
  obtain ⟨h1, h2, h3⟩ := h
  go_enter Try.func26, Try.ntmps26
  go_wp2_with fail
  refine (open_any a len cap _ (by first | exact h1 | exact (Code'.below ⟨h1, h2, h3⟩ (by go_grown)).1) hl h2 h3).mono ?_
  rintro e w1 ⟨R, rfl, hR, hb, hr⟩
  have hB1 := below_pure (w := w) (by go_grown) hb
  have z1 := size_pure (n := w.heap.size) hb (by simp)
  obtain ⟨hc, hf⟩ := bcell hb
  clear hb
  have hR' : w.heap.size < R := by simp at hR; omega
  clear hR
  go_wp2_with fail
  refine (l20Value_any R 0 _ _ hr (by omega) (by omega) (by omega)).mono ?_
  rintro e w2 ⟨b, d, t, rfl, D⟩
  have hB : Below w.heap.size w w2 := D.whole hB1 (by omega)
  have z2 := D.size
  obtain ⟨hc2, hf2⟩ := D.old
  clear D hB1 hr
  go_wp2_with fail
  refine bodyPost_ret (v := .agg #[.int .i64 b, .int .i64 d, .int .i64 t]) (by simp [results, Try.results26, go_sem, *]) rfl ⟨b, d, t, rfl, by go_grown⟩

set_option maxHeartbeats 1000000 in
theorem drawTicksOf_any (a : Option Addr) (len cap : Nat) (w : World) (h : Code' w a len cap) (hl : len ≤ 1048576) :
    Calls Try.prog 28 #[.slice a len cap] w (DrawnValue w) := by
  obtain ⟨h1, h2, h3⟩ := h
  go_enter Try.func28, Try.ntmps28
  go_wp2_with fail
  refine (open_any a len cap _ (by first | exact h1 | exact (Code'.below ⟨h1, h2, h3⟩ (by go_grown)).1) hl h2 h3).mono ?_
  rintro e w1 ⟨R, rfl, hR, hb, hr⟩
  have hB1 := below_pure (w := w) (by go_grown) hb
  have z1 := size_pure (n := w.heap.size) hb (by simp)
  obtain ⟨hc, hf⟩ := bcell hb
  clear hb
  have hR' : w.heap.size < R := by simp at hR; omega
  clear hR
  go_wp2_with fail
  refine (l20Value_any R 0 _ _ hr (by omega) (by omega) (by omega)).mono ?_
  rintro e w2 ⟨b, d, t, rfl, D⟩
  have hB : Below w.heap.size w w2 := D.whole hB1 (by omega)
  have z2 := D.size
  obtain ⟨hc2, hf2⟩ := D.old
  clear D hB1 hr
  go_wp2_with fail
  refine bodyPost_ret (v := .agg #[.int .i64 b, .int .i64 d, .int .i64 t]) (by simp [results, Try.results28, go_sem, *]) rfl ⟨b, d, t, rfl, by go_grown⟩

set_option maxHeartbeats 4000000 in
theorem drawValueOf_any (a : Option Addr) (len cap : Nat) (w : World) (h : Code' w a len cap) (hl : len ≤ 1048576) :
    Calls Try.prog 29 #[.slice a len cap] w (DrawnInt w) := by
  obtain ⟨h1, h2, h3⟩ := h
  go_enter Try.func29, Try.ntmps29
  go_wp2_with fail
  refine (open_any a len cap _ (by first | exact h1 | exact (Code'.below (w := w) ⟨h1, h2, h3⟩ (by go_grown)).1) hl h2 h3).mono ?_
  rintro e w1 ⟨R, rfl, hR, hb, hr⟩
  have hB1 := below_pure (w := w) (by go_grown) hb
  clear hb
  have hR' : w.heap.size ≤ R := by (try simp at hR); omega
  clear hR
  have D1 := Dr.start hr
  go_wp2_with fail
  refine (l20Value_any R _ _ _ D1.rd (by omega) (by omega) (by omega)).mono ?_
  rintro e w2 ⟨b, d, t, rfl, E⟩
  replace D1 := D1.pick E.1 E.2.1
  clear E
  go_wp2_with fail
  refine (specTicksOf_any b d t _).mono ?_
  rintro e w3 ⟨rfl, hb⟩
  replace D1 := D1.below hb
  obtain ⟨x, hx⟩ : ∃ x, tickV b d t = x := ⟨_, rfl⟩
  rw [hx]
  clear hb hx
  go_wp2_with fail
  refine (pick_any R _ 256 _ D1.rd (by omega) (by omega) (by omega)).mono ?_
  rintro e w4 ⟨y, rfl, y0, y1, -, g2, r2⟩
  clear y1
  replace D1 := D1.pick g2 r2
  clear g2 r2
  have hs := D1.rd.lt
  go_wp2_with fail
  refine (pick_any R _ 6 _ ((D1.alloc _).alloc _).rd (by omega) (by omega) (by omega)).mono ?_
  rintro e w5 ⟨v, rfl, v0, v1, -, g2, r2⟩
  replace v1 := v1 (by omega)
  have D2 := ((D1.alloc _).alloc _).pick g2 r2
  have B := (Blk.new _ _ _).grown g2 (fun e => by simp at e; omega)
  have A := ((Blk.new _ _ _).alloc _).grown g2 (fun e => by injection e; omega)
  have b0 := Blk.get (i := 0) B rfl
  have b1 := Blk.get (i := 1) B rfl
  have b2 := Blk.get (i := 2) B rfl
  have b3 := Blk.get (i := 3) B rfl
  have b4 := Blk.get (i := 4) B rfl
  have b5 := Blk.get (i := 5) B rfl
  have a0 := Blk.get (i := 0) A rfl
  have a1 := Blk.get (i := 1) A rfl
  have a2 := Blk.get (i := 2) A rfl
  have a3 := Blk.get (i := 3) A rfl
  have hB : Below w.heap.size w w5 := D2.whole hB1 (by omega)
  simp only [World.size_alloc] at b0 b1 b2 b3 b4 b5
  clear g2 r2 A B D1 D2 hB1 hr
  have hv : v = 0 ∨ v = 1 ∨ v = 2 ∨ v = 3 ∨ v = 4 ∨ v = 5 := by omega
  rcases hv with rfl | rfl | rfl | rfl | rfl | rfl
  all_goals
    go_wp2_with fail
    go_ret
    exact ⟨_, rfl, hB⟩

end Go.Proofs.Ytgbnaimkpnoeoaa

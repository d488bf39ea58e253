/- The walks of the draws of notes: each opens a reader and draws; what it returns lies within bounds, and nothing old has turned. -/
import Derived.Test.YtmkkhbplfedpoaaDn
import Derived.Test.YtmkkhbplfedpoaaBytes
namespace Go.Proofs.Ytmkkhbplfedpoaa
open Go.RowKit

/-- What the draw NoteValid leaves. -/
def DrawnNoteValid (w : World) (e : Ending) (w' : World) : Prop :=
  ∃ (r : Bool) (s x o t : Int) (d : Bool), e = .returned (.agg #[.bool r, .int .i64 s, .int .i64 x, .int .i64 o, .int .i64 t, .bool d]) ∧ (-9 ≤ s ∧ s ≤ 9 ∧ -9 ≤ x ∧ x ≤ 9 ∧ -9 ≤ o ∧ o ≤ 9 ∧ 0 ≤ t ∧ t ≤ 1000) ∧ Below w.heap.size w w'

set_option maxHeartbeats 1000000 in
theorem drawNoteValid_any (a : Option Addr) (len cap : Nat) (w : World) (h : Code' w a len cap) (hl : len ≤ 1048576) :
    Calls Try.prog 38 #[.slice a len cap] w (DrawnNoteValid w) := by
  obtain ⟨h1, h2, h3⟩ := h
  go_enter Try.func38, Try.ntmps38
  go_wp2_with fail
  refine (open_any a len cap _ (by first | exact h1 | exact (Code'.below (w := w) ⟨h1, h2, h3⟩ (by go_grown)).1) hl h2 h3).mono ?_
  rintro e w1 ⟨R, rfl, hR, hb, hr⟩
  have hB1 := below_pure (w := w) (by go_grown) hb
  have k0 : Blk w1 (w.heap.size) 29 #[.bool false, .int .i64 0, .int .i64 0, .int .i64 0, .int .i64 0, .bool false] := Blk.pure (Blk.new _ _ _) hb
  clear hb
  have hR0 : w.heap.size < R := by (try simp at hR); omega
  have hR' : w.heap.size ≤ R := by (try simp at hR); omega
  clear hR
  have D1 := Dr.start hr
  go_wp2_with fail
  refine (l20Note_any R _ 2 _ D1.rd (by omega) (by omega) (by omega)).mono ?_
  rintro e w2 ⟨r0, s0, x0, o0, t0, d0, rfl, hbd0, E⟩
  replace D1 := D1.pick E.1 E.2.1
  clear E
  have hB : Below w.heap.size w w2 := D1.whole hB1 (by omega)
  replace k0 := D1.blk k0 (by omega)
  have k0_c0 := Blk.get (i := 0) k0 rfl
  have k0_f0 := Blk.frozen k0 0
  have k0_c1 := Blk.get (i := 1) k0 rfl
  have k0_f1 := Blk.frozen k0 1
  have k0_c2 := Blk.get (i := 2) k0 rfl
  have k0_f2 := Blk.frozen k0 2
  have k0_c3 := Blk.get (i := 3) k0 rfl
  have k0_f3 := Blk.frozen k0 3
  have k0_c4 := Blk.get (i := 4) k0 rfl
  have k0_f4 := Blk.frozen k0 4
  have k0_c5 := Blk.get (i := 5) k0 rfl
  have k0_f5 := Blk.frozen k0 5
  have k0_z := k0.lt
  clear k0
  have hsz := hB.size
  clear D1 hB1 hr
  go_wp2_with fail
  refine bodyPost_ret (v := .agg #[.bool r0, .int .i64 s0, .int .i64 x0, .int .i64 o0, .int .i64 t0, .bool d0]) (by simp [results, Try.results38, go_sem, *]) rfl ⟨r0, s0, x0, o0, t0, d0, rfl, by omega, by go_grown⟩

end Go.Proofs.Ytmkkhbplfedpoaa

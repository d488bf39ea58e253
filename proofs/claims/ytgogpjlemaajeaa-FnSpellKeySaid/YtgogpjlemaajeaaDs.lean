/- The walks of the draws of keys of a pitch: each opens a reader and draws; what it returns lies within bounds, and nothing old has turned. -/
import Derived.Test.YtgogpjlemaajeaaDp
import Derived.Test.YtgogpjlemaajeaaBytes
namespace Go.Proofs.Ytgogpjlemaajeaa
open Go.RowKit

/-- What the draw SpellKey leaves. -/
def DrawnSpellKey (w : World) (e : Ending) (w' : World) : Prop :=
  ∃ (f : Int) (b : Bool), e = .returned (.tuple #[.int .i64 f, .bool b]) ∧ (-1 ≤ f ∧ f ≤ 108) ∧ Below w.heap.size w w'

set_option maxHeartbeats 1000000 in
theorem drawSpellKey_any (a : Option Addr) (len cap : Nat) (w : World) (h : Code' w a len cap) (hl : len ≤ 1048576) :
    Calls Try.prog 35 #[.slice a len cap] w (DrawnSpellKey w) := by
  obtain ⟨h1, h2, h3⟩ := h
  go_enter Try.func35, Try.ntmps35
  go_wp2_with fail
  refine (open_any a len cap _ (by first | exact h1 | exact (Code'.below (w := w) ⟨h1, h2, h3⟩ (by go_grown)).1) hl h2 h3).mono ?_
  rintro e w1 ⟨R, rfl, hR, hb, hr⟩
  have hB1 := below_pure (w := w) (by go_grown) hb
  clear hb
  have hR' : w.heap.size ≤ R := by (try simp at hR); omega
  clear hR
  have D1 := Dr.start hr
  go_wp2_with fail
  refine (pick_any R _ 110 _ D1.rd (by omega) (by omega) (by omega)).mono ?_
  rintro e w2 ⟨u0, rfl, p0, q0, -, g1, g2⟩
  replace D1 := D1.pick g1 g2
  replace q0 := q0 (by omega)
  clear g1 g2
  go_wp2_with fail
  refine (pick_any R _ 2 _ D1.rd (by omega) (by omega) (by omega)).mono ?_
  rintro e w3 ⟨u1, rfl, p1, q1, -, g1, g2⟩
  replace D1 := D1.pick g1 g2
  replace q1 := q1 (by omega)
  clear g1 g2
  have hB : Below w.heap.size w w3 := D1.whole hB1 (by omega)
  clear D1 hB1 hr
  go_wp2_with fail
  refine bodyPost_ret (v := .tuple #[.int .i64 (u0 - 1), .bool (u1 == 0)]) (by simp [results, Try.results35, go_sem, *]) rfl ⟨u0 - 1, _, rfl, by omega, by go_grown⟩

end Go.Proofs.Ytgogpjlemaajeaa

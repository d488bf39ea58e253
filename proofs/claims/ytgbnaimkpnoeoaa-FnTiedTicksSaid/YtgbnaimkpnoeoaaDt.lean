/- The walk of the draw of a number of ticks: it opens a reader and draws; what it returns lies within bounds, and nothing old has turned. Conditions: the code lies in memory as a slice of bytes that came in does. -/
import Derived.Test.YtgbnaimkpnoeoaaBytes
namespace Go.Proofs.Ytgbnaimkpnoeoaa
open Go.RowKit

/-- What the draw TiedTicks leaves. -/
def DrawnTiedTicks (w : World) (e : Ending) (w' : World) : Prop :=
  ∃ n : Int, e = .returned (.int .i64 n) ∧ (-1 ≤ n ∧ n ≤ 1000) ∧ Below w.heap.size w w'

set_option maxHeartbeats 4000000 in
theorem drawTiedTicks_any (a : Option Addr) (len cap : Nat) (w : World) (h : Code' w a len cap) (hl : len ≤ 1048576) :
    Calls Try.prog 30 #[.slice a len cap] w (DrawnTiedTicks w) := by
  obtain ⟨h1, h2, h3⟩ := h
  go_enter Try.func30, Try.ntmps30
  go_wp2_with fail
  refine (open_any a len cap _ (by first | exact h1 | exact (Code'.below (w := w) ⟨h1, h2, h3⟩ (by go_grown)).1) hl h2 h3).mono ?_
  rintro e w1 ⟨R, rfl, hR, hb, hr⟩
  have hB1 := below_pure (w := w) (by go_grown) hb
  clear hb
  have hR' : w.heap.size ≤ R := by (try simp at hR); omega
  clear hR
  have D1 := Dr.start hr
  go_wp2_with fail
  refine (pick_any R _ 64 _ D1.rd (by omega) (by omega) (by omega)).mono ?_
  rintro e w2 ⟨x, rfl, x0, x1, -, g2, r2⟩
  replace x1 := x1 (by omega)
  replace D1 := D1.pick g2 r2
  clear g2 r2
  go_wp2_with fail
  refine (pick_any R _ 256 _ D1.rd (by omega) (by omega) (by omega)).mono ?_
  rintro e w3 ⟨y, rfl, y0, y1, -, g2, r2⟩
  replace y1 := y1 (by omega)
  replace D1 := D1.pick g2 r2
  clear g2 r2
  go_wp2_with fail
  refine (pick_any R _ 256 _ D1.rd (by omega) (by omega) (by omega)).mono ?_
  rintro e w4 ⟨z, rfl, z0, z1, -, g2, r2⟩
  replace z1 := z1 (by omega)
  replace D1 := D1.pick g2 r2
  clear g2 r2
  have hs := D1.rd.lt
  go_wp2_with fail
  refine (pick_any R _ 8 _ ((D1.alloc _).alloc _).rd (by omega) (by omega) (by omega)).mono ?_
  rintro e w5 ⟨v, rfl, v0, v1, -, g2, r2⟩
  replace v1 := v1 (by omega)
  have D2 := ((D1.alloc _).alloc _).pick g2 r2
  have B := (Blk.new _ _ _).grown g2 (fun e => by simp at e; omega)
  have A := ((Blk.new _ _ _).alloc _).grown g2 (fun e => by injection e; omega)
  have b0 := Blk.get (i := 0) B rfl
  have b1 := Blk.get (i := 1) B rfl
  have b2 := Blk.get (i := 2) B rfl
  have b3 := Blk.get (i := 3) B rfl
  have b4 := Blk.get (i := 4) B rfl
  have b5 := Blk.get (i := 5) B rfl
  have b6 := Blk.get (i := 6) B rfl
  have b7 := Blk.get (i := 7) B rfl
  have a0 := Blk.get (i := 0) A rfl
  have a1 := Blk.get (i := 1) A rfl
  have a2 := Blk.get (i := 2) A rfl
  have a3 := Blk.get (i := 3) A rfl
  have a4 := Blk.get (i := 4) A rfl
  have a5 := Blk.get (i := 5) A rfl
  have hB : Below w.heap.size w w5 := D2.whole hB1 (by omega)
  simp only [World.size_alloc] at b0 b1 b2 b3 b4 b5 b6 b7
  clear g2 r2 A B D1 D2 hB1 hr
  have hv : v = 0 ∨ v = 1 ∨ v = 2 ∨ v = 3 ∨ v = 4 ∨ v = 5 ∨ v = 6 ∨ v = 7 := by omega
  rcases hv with rfl | rfl | rfl | rfl | rfl | rfl | rfl | rfl
  all_goals
    go_wp2_with fail
    go_ret
    exact ⟨_, rfl, by omega, hB⟩

end Go.Proofs.Ytgbnaimkpnoeoaa

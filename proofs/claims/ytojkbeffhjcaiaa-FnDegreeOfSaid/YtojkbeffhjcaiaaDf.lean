/- The walk of the draw of a key: it returns a number within -8..8, and moves nothing old but the reader. -/
import Derived.Test.YtojkbeffhjcaiaaDp
namespace Go.Proofs.Ytojkbeffhjcaiaa
open Go.RowKit

/-- What the draw of a key leaves. -/
def FifthsPost (w : World) (R K : Nat) (e : Ending) (w' : World) : Prop :=
  ∃ f : Int, e = .returned (.int .i64 f) ∧ (-8 ≤ f ∧ f ≤ 8) ∧ Dr w w' R K

set_option maxHeartbeats 2000000 in
theorem l20Fifths_any (R K : Nat) (n : Int) (w : World) (h : RdOk w R K) (hK : K ≤ 50000) (hn : 0 ≤ n) (hn' : n ≤ 1000) :
    Calls Try.prog 58 #[.pointer (some ⟨R, 0, none⟩), .int .i64 n] w (FifthsPost w R (K + 20)) := by
  have hR := h.lt
  go_enter Try.func58, Try.ntmps58
  go_wp2_with fail
  refine (odd_any R K n _ h (by omega) (by omega) (by omega)).mono ?_
  rintro e w1 ⟨b, rfl, -, g1, r1⟩
  have D1 := (Dr.start h).pick g1 r1
  clear g1 r1
  cases b
  · go_wp2_with fail
    refine (pick_any R _ 15 _ D1.rd (by omega) (by omega) (by omega)).mono ?_
    rintro e w2 ⟨u, rfl, u0, u1, -, g2, r2⟩
    replace u1 := u1 (by omega)
    replace D1 := D1.pick g2 r2
    clear g2 r2
    go_wp2_with fail
    refine (pick_any R _ 5 _ D1.rd (by omega) (by omega) (by omega)).mono ?_
    rintro e w3 ⟨v, rfl, v0, v1, -, g2, r2⟩
    replace v1 := v1 (by omega)
    replace D1 := D1.pick g2 r2
    clear g2 r2
    go_wp2_with fail
    refine (pick_any R _ 3 _ (D1.alloc _).rd (by omega) (by omega) (by omega)).mono ?_
    rintro e w4 ⟨x, rfl, x0, x1, -, g2, r2⟩
    replace x1 := x1 (by omega)
    have D2 := (D1.alloc _).pick g2 r2
    have B := (Blk.new _ _ _).grown g2 (fun e => by have := D1.rd.lt; injection e; omega)
    have b0 := Blk.get (i := 0) B rfl
    have b1 := Blk.get (i := 1) B rfl
    have b2 := Blk.get (i := 2) B rfl
    clear g2 r2 B D1
    have hx : x = 0 ∨ x = 1 ∨ x = 2 := by omega
    rcases hx with rfl | rfl | rfl
    all_goals
      go_wp2_with fail
      go_ret
      exact ⟨_, rfl, by omega, D2.mono (by omega)⟩
  · go_wp2_with fail
    refine (pick_any R _ 2 _ (D1.alloc _).rd (by omega) (by omega) (by omega)).mono ?_
    rintro e w4 ⟨x, rfl, x0, x1, -, g2, r2⟩
    replace x1 := x1 (by omega)
    have D2 := (D1.alloc _).pick g2 r2
    have B := (Blk.new _ _ _).grown g2 (fun e => by have := D1.rd.lt; injection e; omega)
    have b0 := Blk.get (i := 0) B rfl
    have b1 := Blk.get (i := 1) B rfl
    clear g2 r2 B D1
    have hx : x = 0 ∨ x = 1 := by omega
    rcases hx with rfl | rfl
    all_goals
      go_wp2_with fail
      go_ret
      exact ⟨_, rfl, by omega, D2.mono (by omega)⟩

end Go.Proofs.Ytojkbeffhjcaiaa

/- The walks of the draws of intervals: each opens a reader and draws; what it returns lies within bounds, and nothing old has turned. -/
import Derived.Test.YtojkbeffhjcaiaaDp
import Derived.Test.YtojkbeffhjcaiaaDw
import Derived.Test.YtojkbeffhjcaiaaBytes
namespace Go.Proofs.Ytojkbeffhjcaiaa
open Go.RowKit

/-- What the draw IntervalValid leaves. -/
def DrawnIntervalValid (w : World) (e : Ending) (w' : World) : Prop :=
  ∃ s h : Int, e = .returned (.agg #[.int .i64 s, .int .i64 h]) ∧ (-22 ≤ s ∧ s ≤ 22 ∧ -5000 ≤ h ∧ (h ≤ 5000 ∨ h = 9223372036854775807)) ∧ Below w.heap.size w w'

/-- What the draw IntervalBack leaves. -/
def DrawnIntervalBack (w : World) (e : Ending) (w' : World) : Prop :=
  ∃ s h : Int, e = .returned (.agg #[.int .i64 s, .int .i64 h]) ∧ (-22 ≤ s ∧ s ≤ 22 ∧ -5000 ≤ h ∧ (h ≤ 5000 ∨ h = 9223372036854775807)) ∧ Below w.heap.size w w'

/-- What the draw IntervalRest leaves. -/
def DrawnIntervalRest (w : World) (e : Ending) (w' : World) : Prop :=
  ∃ s h : Int, e = .returned (.agg #[.int .i64 s, .int .i64 h]) ∧ (-22 ≤ s ∧ s ≤ 22 ∧ -5000 ≤ h ∧ (h ≤ 5000 ∨ h = 9223372036854775807)) ∧ Below w.heap.size w w'

/-- What the draw IntervalQuality leaves. -/
def DrawnIntervalQuality (w : World) (e : Ending) (w' : World) : Prop :=
  ∃ s h : Int, e = .returned (.agg #[.int .i64 s, .int .i64 h]) ∧ (-22 ≤ s ∧ s ≤ 22 ∧ -5000 ≤ h ∧ (h ≤ 5000 ∨ h = 9223372036854775807)) ∧ Below w.heap.size w w'

/-- What the draw IntervalOf leaves. -/
def DrawnIntervalOf (w : World) (e : Ending) (w' : World) : Prop :=
  ∃ s x o s' x' o' : Int, e = .returned (.tuple #[.agg #[.int .i64 s, .int .i64 x, .int .i64 o], .agg #[.int .i64 (s'), .int .i64 (x'), .int .i64 (o')]]) ∧ (-9 ≤ s ∧ s ≤ 9 ∧ -9 ≤ x ∧ x ≤ 9 ∧ -9 ≤ o ∧ o ≤ 9 ∧ -9 ≤ s' ∧ s' ≤ 9 ∧ -9 ≤ x' ∧ x' ≤ 9 ∧ -9 ≤ o' ∧ o' ≤ 9) ∧ Below w.heap.size w w'

/-- What the draw AddInterval leaves. -/
def DrawnAddInterval (w : World) (e : Ending) (w' : World) : Prop :=
  ∃ s' x o s h : Int, e = .returned (.tuple #[.agg #[.int .i64 (s'), .int .i64 x, .int .i64 o], .agg #[.int .i64 s, .int .i64 h]]) ∧ (-9 ≤ s' ∧ s' ≤ 9 ∧ -9 ≤ x ∧ x ≤ 9 ∧ -9 ≤ o ∧ o ≤ 9 ∧ -22 ≤ s ∧ s ≤ 22 ∧ -5000 ≤ h ∧ (h ≤ 5000 ∨ h = 9223372036854775807)) ∧ Below w.heap.size w w'

set_option maxHeartbeats 1000000 in
theorem drawAddInterval_any (a : Option Addr) (len cap : Nat) (w : World) (h : Code' w a len cap) (hl : len ≤ 1048576) :
    Calls Try.prog 45 #[.slice a len cap] w (DrawnAddInterval w) := by
  obtain ⟨h1, h2, h3⟩ := h
  go_enter Try.func45, Try.ntmps45
  go_wp2_with fail
  refine (open_any a len cap _ (by first | exact h1 | exact (Code'.below (w := w) ⟨h1, h2, h3⟩ (by go_grown)).1) hl h2 h3).mono ?_
  rintro e w1 ⟨R, rfl, hR, hb, hr⟩
  have hB1 := below_pure (w := w) (by go_grown) hb
  have k0 : Blk w1 (w.heap.size) 27 #[.int .i64 0, .int .i64 0, .int .i64 0] := Blk.pure (Blk.alloc (Blk.new _ _ _) _) hb
  have k1 : Blk w1 (w.heap.size + 1) 57 #[.int .i64 0, .int .i64 0] := Blk.pure (Blk.new' (by simp)) hb
  clear hb
  have hR0 : w.heap.size < R := by (try simp at hR); omega
  have hR1 : w.heap.size + 1 < R := by (try simp at hR); omega
  have hR' : w.heap.size ≤ R := by (try simp at hR); omega
  clear hR
  have D1 := Dr.start hr
  go_wp2_with fail
  refine (l20Pitch_any R _ 14 _ D1.rd (by omega) (by omega) (by omega)).mono ?_
  rintro e w2 ⟨s0, x0, o0, rfl, hbd0, E⟩
  replace D1 := D1.pick E.1 E.2.1
  clear E
  go_wp2_with fail
  refine (l20Way_any R _ 14 _ D1.rd (by omega) (by omega) (by omega)).mono ?_
  rintro e w3 ⟨s1, h1, rfl, hbd1, E⟩
  replace D1 := D1.pick E.1 E.2.1
  clear E
  have hB : Below w.heap.size w w3 := D1.whole hB1 (by omega)
  replace k0 := D1.blk k0 (by omega)
  have k0_c0 := Blk.get (i := 0) k0 rfl
  have k0_f0 := Blk.frozen k0 0
  have k0_c1 := Blk.get (i := 1) k0 rfl
  have k0_f1 := Blk.frozen k0 1
  have k0_c2 := Blk.get (i := 2) k0 rfl
  have k0_f2 := Blk.frozen k0 2
  have k0_z := k0.lt
  clear k0
  replace k1 := D1.blk k1 (by omega)
  have k1_c0 := Blk.get (i := 0) k1 rfl
  have k1_f0 := Blk.frozen k1 0
  have k1_c1 := Blk.get (i := 1) k1 rfl
  have k1_f1 := Blk.frozen k1 1
  have k1_z := k1.lt
  clear k1
  have hsz := hB.size
  clear D1 hB1 hr
  go_wp2_with fail
  refine bodyPost_ret (v := .tuple #[.agg #[.int .i64 s0, .int .i64 x0, .int .i64 o0], .agg #[.int .i64 s1, .int .i64 h1]]) (by simp [results, Try.results45, go_sem, *]) rfl ⟨s0, x0, o0, s1, h1, rfl, by omega, by go_grown⟩

end Go.Proofs.Ytojkbeffhjcaiaa

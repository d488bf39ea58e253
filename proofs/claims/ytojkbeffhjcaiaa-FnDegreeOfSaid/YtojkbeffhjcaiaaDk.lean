/- The walks of the draws of keys: each opens a reader and draws; what it returns lies within bounds, and nothing old has turned. -/
import Derived.Test.YtojkbeffhjcaiaaDf
import Derived.Test.YtojkbeffhjcaiaaBytes
namespace Go.Proofs.Ytojkbeffhjcaiaa
open Go.RowKit

/-- What the draw KeyAlter leaves. -/
def DrawnKeyAlter (w : World) (e : Ending) (w' : World) : Prop :=
  ∃ f g : Int, e = .returned (.tuple #[.int .i64 f, .int .i64 g]) ∧ (-8 ≤ f ∧ f ≤ 8 ∧ -9 ≤ g ∧ g ≤ 9) ∧ Below w.heap.size w w'

set_option maxHeartbeats 1000000 in
theorem drawKeyAlter_any (a : Option Addr) (len cap : Nat) (w : World) (h : Code' w a len cap) (hl : len ≤ 1048576) :
    Calls Try.prog 34 #[.slice a len cap] w (DrawnKeyAlter w) := by
  obtain ⟨h1, h2, h3⟩ := h
  go_enter Try.func34, Try.ntmps34
  go_wp2_with fail
  refine (open_any a len cap _ (by first | exact h1 | exact (Code'.below (w := w) ⟨h1, h2, h3⟩ (by go_grown)).1) hl h2 h3).mono ?_
  rintro e w1 ⟨R, rfl, hR, hb, hr⟩
  have hB1 := below_pure (w := w) (by go_grown) hb
  clear hb
  have hR' : w.heap.size ≤ R := by (try simp at hR); omega
  clear hR
  have D1 := Dr.start hr
  go_wp2_with fail
  refine (l20Fifths_any R _ 9 _ D1.rd (by omega) (by omega) (by omega)).mono ?_
  rintro e w2 ⟨f0, rfl, hbd0, E⟩
  replace D1 := D1.pick E.1 E.2.1
  clear E
  go_wp2_with fail
  refine (pick_any R _ 8 _ D1.rd (by omega) (by omega) (by omega)).mono ?_
  rintro e w3 ⟨u1, rfl, p1, q1, -, g1, g2⟩
  replace D1 := D1.pick g1 g2
  replace q1 := q1 (by omega)
  clear g1 g2
  go_wp2_with fail
  refine (pick_any R _ 9 _ D1.rd (by omega) (by omega) (by omega)).mono ?_
  rintro e w4 ⟨u2, rfl, p2, q2, -, g1, g2⟩
  replace D1 := D1.pick g1 g2
  replace q2 := q2 (by omega)
  clear g1 g2
  have hB : Below w.heap.size w w4 := D1.whole hB1 (by omega)
  clear D1 hB1 hr
  go_wp2_with fail
  refine bodyPost_ret (v := .tuple #[.int .i64 f0, .int .i64 (u1 - u2 / 8)]) (by simp [results, Try.results34, go_sem, *]) rfl ⟨f0, u1 - u2 / 8, rfl, by omega, by go_grown⟩

/-- What the draw KeyTonic leaves. -/
def DrawnKeyTonic (w : World) (e : Ending) (w' : World) : Prop :=
  ∃ (f : Int) (b : Bool), e = .returned (.tuple #[.int .i64 f, .bool b]) ∧ (-8 ≤ f ∧ f ≤ 8) ∧ Below w.heap.size w w'

set_option maxHeartbeats 1000000 in
theorem drawKeyTonic_any (a : Option Addr) (len cap : Nat) (w : World) (h : Code' w a len cap) (hl : len ≤ 1048576) :
    Calls Try.prog 38 #[.slice a len cap] w (DrawnKeyTonic w) := by
  obtain ⟨h1, h2, h3⟩ := h
  go_enter Try.func38, Try.ntmps38
  go_wp2_with fail
  refine (open_any a len cap _ (by first | exact h1 | exact (Code'.below (w := w) ⟨h1, h2, h3⟩ (by go_grown)).1) hl h2 h3).mono ?_
  rintro e w1 ⟨R, rfl, hR, hb, hr⟩
  have hB1 := below_pure (w := w) (by go_grown) hb
  clear hb
  have hR' : w.heap.size ≤ R := by (try simp at hR); omega
  clear hR
  have D1 := Dr.start hr
  go_wp2_with fail
  refine (l20Fifths_any R _ 6 _ D1.rd (by omega) (by omega) (by omega)).mono ?_
  rintro e w2 ⟨f0, rfl, hbd0, E⟩
  replace D1 := D1.pick E.1 E.2.1
  clear E
  go_wp2_with fail
  refine (pick_any R _ 2 _ D1.rd (by omega) (by omega) (by omega)).mono ?_
  rintro e w3 ⟨u1, rfl, p1, q1, -, g1, g2⟩
  replace D1 := D1.pick g1 g2
  replace q1 := q1 (by omega)
  clear g1 g2
  have hB : Below w.heap.size w w3 := D1.whole hB1 (by omega)
  clear D1 hB1 hr
  go_wp2_with fail
  refine bodyPost_ret (v := .tuple #[.int .i64 f0, .bool (u1 == 0)]) (by simp [results, Try.results38, go_sem, *]) rfl ⟨f0, _, rfl, by omega, by go_grown⟩

/-- What the draw KeyScale leaves. -/
def DrawnKeyScale (w : World) (e : Ending) (w' : World) : Prop :=
  ∃ (f : Int) (b : Bool), e = .returned (.tuple #[.int .i64 f, .bool b]) ∧ (-8 ≤ f ∧ f ≤ 8) ∧ Below w.heap.size w w'

set_option maxHeartbeats 1000000 in
theorem drawKeyScale_any (a : Option Addr) (len cap : Nat) (w : World) (h : Code' w a len cap) (hl : len ≤ 1048576) :
    Calls Try.prog 39 #[.slice a len cap] w (DrawnKeyScale w) := by
  obtain ⟨h1, h2, h3⟩ := h
  go_enter Try.func39, Try.ntmps39
  go_wp2_with fail
  refine (open_any a len cap _ (by first | exact h1 | exact (Code'.below (w := w) ⟨h1, h2, h3⟩ (by go_grown)).1) hl h2 h3).mono ?_
  rintro e w1 ⟨R, rfl, hR, hb, hr⟩
  have hB1 := below_pure (w := w) (by go_grown) hb
  clear hb
  have hR' : w.heap.size ≤ R := by (try simp at hR); omega
  clear hR
  have D1 := Dr.start hr
  go_wp2_with fail
  refine (l20Fifths_any R _ 6 _ D1.rd (by omega) (by omega) (by omega)).mono ?_
  rintro e w2 ⟨f0, rfl, hbd0, E⟩
  replace D1 := D1.pick E.1 E.2.1
  clear E
  go_wp2_with fail
  refine (pick_any R _ 2 _ D1.rd (by omega) (by omega) (by omega)).mono ?_
  rintro e w3 ⟨u1, rfl, p1, q1, -, g1, g2⟩
  replace D1 := D1.pick g1 g2
  replace q1 := q1 (by omega)
  clear g1 g2
  have hB : Below w.heap.size w w3 := D1.whole hB1 (by omega)
  clear D1 hB1 hr
  go_wp2_with fail
  refine bodyPost_ret (v := .tuple #[.int .i64 f0, .bool (u1 == 0)]) (by simp [results, Try.results39, go_sem, *]) rfl ⟨f0, _, rfl, by omega, by go_grown⟩

/-- What the draw InKey leaves. -/
def DrawnInKey (w : World) (e : Ending) (w' : World) : Prop :=
  ∃ f s x o : Int, e = .returned (.tuple #[.int .i64 f, .agg #[.int .i64 s, .int .i64 x, .int .i64 o]]) ∧ (-8 ≤ f ∧ f ≤ 8 ∧ -9 ≤ s ∧ s ≤ 9 ∧ -9 ≤ x ∧ x ≤ 9 ∧ -9 ≤ o ∧ o ≤ 9) ∧ Below w.heap.size w w'

set_option maxHeartbeats 1000000 in
theorem drawInKey_any (a : Option Addr) (len cap : Nat) (w : World) (h : Code' w a len cap) (hl : len ≤ 1048576) :
    Calls Try.prog 36 #[.slice a len cap] w (DrawnInKey w) := by
  obtain ⟨h1, h2, h3⟩ := h
  go_enter Try.func36, Try.ntmps36
  go_wp2_with fail
  refine (open_any a len cap _ (by first | exact h1 | exact (Code'.below (w := w) ⟨h1, h2, h3⟩ (by go_grown)).1) hl h2 h3).mono ?_
  rintro e w1 ⟨R, rfl, hR, hb, hr⟩
  have hB1 := below_pure (w := w) (by go_grown) hb
  have k0 : Blk w1 (w.heap.size) 27 #[.int .i64 0, .int .i64 0, .int .i64 0] := Blk.pure (Blk.new _ _ _) hb
  clear hb
  have hR0 : w.heap.size < R := by (try simp at hR); omega
  have hR' : w.heap.size ≤ R := by (try simp at hR); omega
  clear hR
  have D1 := Dr.start hr
  go_wp2_with fail
  refine (l20Fifths_any R _ 9 _ D1.rd (by omega) (by omega) (by omega)).mono ?_
  rintro e w2 ⟨f0, rfl, hbd0, E⟩
  replace D1 := D1.pick E.1 E.2.1
  clear E
  go_wp2_with fail
  refine (l20Pitch_any R _ 9 _ D1.rd (by omega) (by omega) (by omega)).mono ?_
  rintro e w3 ⟨s1, x1, o1, rfl, hbd1, E⟩
  replace D1 := D1.pick E.1 E.2.1
  clear E
  have hB : Below w.heap.size w w3 := D1.whole hB1 (by omega)
  replace k0 := D1.blk k0 (by omega)
  have k0_c0 := Blk.get (i := 0) k0 rfl
  have k0_f0 := Blk.frozen k0 0
  have k0_c1 := Blk.get (i := 1) k0 rfl
  have k0_f1 := Blk.frozen k0 1
  have k0_c2 := Blk.get (i := 2) k0 rfl
  have k0_f2 := Blk.frozen k0 2
  have k0_z := k0.lt
  clear k0
  have hsz := hB.size
  clear D1 hB1 hr
  go_wp2_with fail
  refine bodyPost_ret (v := .tuple #[.int .i64 f0, .agg #[.int .i64 s1, .int .i64 x1, .int .i64 o1]]) (by simp [results, Try.results36, go_sem, *]) rfl ⟨f0, s1, x1, o1, rfl, by omega, by go_grown⟩

/-- What the draw KeyOf leaves. -/
def DrawnKeyOf (w : World) (e : Ending) (w' : World) : Prop :=
  ∃ (s x o : Int) (b : Bool), e = .returned (.tuple #[.agg #[.int .i64 s, .int .i64 x, .int .i64 o], .bool b]) ∧ (-9 ≤ s ∧ s ≤ 9 ∧ -9 ≤ x ∧ x ≤ 9 ∧ -9 ≤ o ∧ o ≤ 9) ∧ Below w.heap.size w w'

set_option maxHeartbeats 1000000 in
theorem drawKeyOf_any (a : Option Addr) (len cap : Nat) (w : World) (h : Code' w a len cap) (hl : len ≤ 1048576) :
    Calls Try.prog 43 #[.slice a len cap] w (DrawnKeyOf w) := by
  obtain ⟨h1, h2, h3⟩ := h
  go_enter Try.func43, Try.ntmps43
  go_wp2_with fail
  refine (open_any a len cap _ (by first | exact h1 | exact (Code'.below (w := w) ⟨h1, h2, h3⟩ (by go_grown)).1) hl h2 h3).mono ?_
  rintro e w1 ⟨R, rfl, hR, hb, hr⟩
  have hB1 := below_pure (w := w) (by go_grown) hb
  have k0 : Blk w1 (w.heap.size) 27 #[.int .i64 0, .int .i64 0, .int .i64 0] := Blk.pure (Blk.new _ _ _) hb
  clear hb
  have hR0 : w.heap.size < R := by (try simp at hR); omega
  have hR' : w.heap.size ≤ R := by (try simp at hR); omega
  clear hR
  have D1 := Dr.start hr
  go_wp2_with fail
  refine (l20Pitch_any R _ 9 _ D1.rd (by omega) (by omega) (by omega)).mono ?_
  rintro e w2 ⟨s0, x0, o0, rfl, hbd0, E⟩
  replace D1 := D1.pick E.1 E.2.1
  clear E
  go_wp2_with fail
  refine (pick_any R _ 2 _ D1.rd (by omega) (by omega) (by omega)).mono ?_
  rintro e w3 ⟨u1, rfl, p1, q1, -, g1, g2⟩
  replace D1 := D1.pick g1 g2
  replace q1 := q1 (by omega)
  clear g1 g2
  have hB : Below w.heap.size w w3 := D1.whole hB1 (by omega)
  replace k0 := D1.blk k0 (by omega)
  have k0_c0 := Blk.get (i := 0) k0 rfl
  have k0_f0 := Blk.frozen k0 0
  have k0_c1 := Blk.get (i := 1) k0 rfl
  have k0_f1 := Blk.frozen k0 1
  have k0_c2 := Blk.get (i := 2) k0 rfl
  have k0_f2 := Blk.frozen k0 2
  have k0_z := k0.lt
  clear k0
  have hsz := hB.size
  clear D1 hB1 hr
  go_wp2_with fail
  refine bodyPost_ret (v := .tuple #[.agg #[.int .i64 s0, .int .i64 x0, .int .i64 o0], .bool (u1 == 0)]) (by simp [results, Try.results43, go_sem, *]) rfl ⟨s0, x0, o0, _, rfl, by omega, by go_grown⟩

/-- What the draw DegreeOf leaves. -/
def DrawnDegreeOf (w : World) (e : Ending) (w' : World) : Prop :=
  ∃ (f : Int) (b : Bool) (s x o : Int), e = .returned (.tuple #[.int .i64 f, .bool b, .agg #[.int .i64 s, .int .i64 x, .int .i64 o]]) ∧ (-8 ≤ f ∧ f ≤ 8 ∧ -9 ≤ s ∧ s ≤ 9 ∧ -9 ≤ x ∧ x ≤ 9 ∧ -9 ≤ o ∧ o ≤ 9) ∧ Below w.heap.size w w'

set_option maxHeartbeats 1000000 in
theorem drawDegreeOf_any (a : Option Addr) (len cap : Nat) (w : World) (h : Code' w a len cap) (hl : len ≤ 1048576) :
    Calls Try.prog 44 #[.slice a len cap] w (DrawnDegreeOf w) := by
  obtain ⟨h1, h2, h3⟩ := h
  go_enter Try.func44, Try.ntmps44
  go_wp2_with fail
  refine (open_any a len cap _ (by first | exact h1 | exact (Code'.below (w := w) ⟨h1, h2, h3⟩ (by go_grown)).1) hl h2 h3).mono ?_
  rintro e w1 ⟨R, rfl, hR, hb, hr⟩
  have hB1 := below_pure (w := w) (by go_grown) hb
  have k0 : Blk w1 (w.heap.size) 27 #[.int .i64 0, .int .i64 0, .int .i64 0] := Blk.pure (Blk.new _ _ _) hb
  clear hb
  have hR0 : w.heap.size < R := by (try simp at hR); omega
  have hR' : w.heap.size ≤ R := by (try simp at hR); omega
  clear hR
  have D1 := Dr.start hr
  go_wp2_with fail
  refine (l20Fifths_any R _ 9 _ D1.rd (by omega) (by omega) (by omega)).mono ?_
  rintro e w2 ⟨f0, rfl, hbd0, E⟩
  replace D1 := D1.pick E.1 E.2.1
  clear E
  go_wp2_with fail
  refine (pick_any R _ 2 _ D1.rd (by omega) (by omega) (by omega)).mono ?_
  rintro e w3 ⟨u1, rfl, p1, q1, -, g1, g2⟩
  replace D1 := D1.pick g1 g2
  replace q1 := q1 (by omega)
  clear g1 g2
  go_wp2_with fail
  refine (l20Pitch_any R _ 9 _ D1.rd (by omega) (by omega) (by omega)).mono ?_
  rintro e w4 ⟨s2, x2, o2, rfl, hbd2, E⟩
  replace D1 := D1.pick E.1 E.2.1
  clear E
  have hB : Below w.heap.size w w4 := D1.whole hB1 (by omega)
  replace k0 := D1.blk k0 (by omega)
  have k0_c0 := Blk.get (i := 0) k0 rfl
  have k0_f0 := Blk.frozen k0 0
  have k0_c1 := Blk.get (i := 1) k0 rfl
  have k0_f1 := Blk.frozen k0 1
  have k0_c2 := Blk.get (i := 2) k0 rfl
  have k0_f2 := Blk.frozen k0 2
  have k0_z := k0.lt
  clear k0
  have hsz := hB.size
  clear D1 hB1 hr
  go_wp2_with fail
  refine bodyPost_ret (v := .tuple #[.int .i64 f0, .bool (u1 == 0), .agg #[.int .i64 s2, .int .i64 x2, .int .i64 o2]]) (by simp [results, Try.results44, go_sem, *]) rfl ⟨f0, _, s2, x2, o2, rfl, by omega, by go_grown⟩

end Go.Proofs.Ytojkbeffhjcaiaa

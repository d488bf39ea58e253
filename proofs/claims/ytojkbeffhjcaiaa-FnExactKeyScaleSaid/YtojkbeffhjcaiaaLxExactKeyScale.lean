/- The walk of the law FnExactKeyScale: it returns true, and nothing that was there turns. No condition. -/
import Derived.Test.YtojkbeffhjcaiaaKs
namespace Go.Proofs.Ytojkbeffhjcaiaa
open Go.RowKit

theorem Sees.below {w w' : World} {B : Nat} {a : Option Addr} {N : Nat} {c : Nat → Value} (h : Sees w a N c) (hb : Below B w w') (hlt : ∀ g off, a = some ⟨g, off, Option.none⟩ → 0 < N → g < B) : Sees w' a N c := fun h0 => by
  obtain ⟨g, off, e, hc⟩ := h h0
  exact ⟨g, off, e, fun i hi => (hb.cell (p := ⟨g, off + i, Option.none⟩) (hlt g off e h0)).trans (hc i hi)⟩
theorem Sees.lt {w : World} {a : Option Addr} {N : Nat} {c : Nat → Value} (h : Sees w a N c) : ∀ g off, a = some ⟨g, off, Option.none⟩ → 0 < N → g < w.heap.size := fun g off e h0 => by
  obtain ⟨g', off', e', hc⟩ := h h0
  rw [e] at e'
  obtain ⟨rfl, rfl⟩ : g = g' ∧ off = off' := by injection e' with e1; injection e1 with e2 e3 e4; exact ⟨e2, e3⟩
  exact cell_lt (hc 0 h0)

set_option maxHeartbeats 2000000 in
theorem fnExactKeyScale_walk (f : Int) (m : Bool) (w : World) (_ : (Lit.int .i64 f).wf = true) :
    Calls Try.prog 8 #[.int .i64 f, .bool m] w (Gives (.bool true) w) := by
  have hn : sclN f ≤ 8 := by unfold sclN; split <;> omega
  go_enter Try.func8, Try.ntmps8
  go_wp2_with fail
  refine (specKeyScale_any f m _).mono ?_
  rintro e w1 ⟨a, ca, rfl, hB, O1, l1, l1'⟩
  have S1 := O1.sees
  have T1 := S1.lt
  have hs1 := hB.size
  clear O1
  go_wp2_with fail
  refine (keyScale_any f m _).mono ?_
  rintro e w2 ⟨b, cb, rfl, hb, O2, l2, l2'⟩
  have hB2 := below_pure hB hb
  replace S1 := S1.pure hb
  clear hB hb

  go_wp2_with fail
  refine (eqPitchS_any _ _ _ _ _ _ _ O2.sees S1 (by omega)).mono ?_
  rintro e w3 ⟨rfl, hb⟩
  have hB3 := below_pure hB2 hb
  replace S1 := S1.pure hb
  replace O2 := O2.pure hb
  clear hB2 hb
  go_wp2_with fail
  refine (markPitchS_any _ _ _ _ 1 _ _ O2 (by omega) (by omega) (by omega)).mono ?_
  rintro e w4 ⟨rfl, O3, hb⟩
  replace S1 := S1.below hb T1
  have hB4 : Below w.heap.size w w4 := hB3.trans (hb.mono hs1)
  clear O2 hB3 hb
  go_wp2_with fail
  refine (heldPitchS_any _ _ _ 1 _ O3.sees (by omega) (by omega) (by omega)).mono ?_
  rintro e w5 ⟨rfl, rfl⟩
  go_wp2_with fail
  refine (keyScale_any f m _).mono ?_
  rintro e w6 ⟨c, cc, rfl, hb, O4, l3, l3'⟩
  have hB6 := below_pure hB4 hb
  replace S1 := S1.pure hb
  replace O3 := O3.pure hb
  clear hB4 hb
  go_wp2_with fail
  refine (eqPitchS_any _ _ _ _ _ _ _ O4.sees S1 (by omega)).mono ?_
  rintro e w7 ⟨rfl, hb⟩
  have hB7 := below_pure hB6 hb
  replace O3 := O3.pure hb
  clear hB6 hb
  go_wp2_with fail
  refine (heldPitchS_any _ _ _ 1 _ O3.sees (by omega) (by omega) (by omega)).mono ?_
  rintro e w8 ⟨rfl, rfl⟩
  go_wp2
  go_ret
  exact ⟨rfl, hB7⟩
end Go.Proofs.Ytojkbeffhjcaiaa

/- The walk of the law FnExactTiedTicks: it returns true, and nothing that was there turns. No condition. -/
import Derived.Test.YtgbnaimkpnoeoaaFt
import Derived.Test.YtgbnaimkpnoeoaaFi
namespace Go.Proofs.Ytgbnaimkpnoeoaa
open Go.RowKit

theorem Sees.belowI {w w' : World} {B : Nat} {a : Option Addr} {N : Nat} {c : Nat → Value} (h : Sees w a N c) (hb : Below B w w') (hlt : ∀ g off, a = some ⟨g, off, Option.none⟩ → 0 < N → g < B) : Sees w' a N c := fun h0 => by
  obtain ⟨g, off, e, hc⟩ := h h0
  exact ⟨g, off, e, fun i hi => (hb.cell (p := ⟨g, off + i, Option.none⟩) (hlt g off e h0)).trans (hc i hi)⟩
theorem Sees.ltI {w : World} {a : Option Addr} {N : Nat} {c : Nat → Value} (h : Sees w a N c) : ∀ g off, a = some ⟨g, off, Option.none⟩ → 0 < N → g < w.heap.size := fun g off e h0 => by
  obtain ⟨g', off', e', hc⟩ := h h0
  rw [e] at e'
  obtain ⟨rfl, rfl⟩ : g = g' ∧ off = off' := by injection e' with e1; injection e1 with e2 e3 e4; exact ⟨e2, e3⟩
  exact cell_lt (hc 0 h0)
theorem ttV_len (n : Int) : (ttV n).length ≤ 10000000 := by
  by_cases h : 1 ≤ n ∧ n ≤ 768 ∧ Fw n.toNat ≤ 768
  · rw [ttV_t h]
    have := TT_len n.toNat h.2.2
    omega
  · rw [ttV_f h]
    simp

set_option maxHeartbeats 2000000 in
set_option maxRecDepth 100000 in
theorem fnExactTiedTicks_walk (n : Int) (w : World) (_ : (Lit.int .i64 n).wf = true) :
    Calls Try.prog 7 #[.int .i64 n] w (Gives (.bool true) w) := by
  obtain ⟨T, hT⟩ : ∃ T, ttV n = T := ⟨_, rfl⟩
  have hTl : T.length ≤ 10000000 := by rw [← hT]; exact ttV_len n
  have HG := fun W => tiedTicks_any n W
  have HW := fun W => specTiedTicks_any n W
  rw [hT] at HG HW
  replace HG := Lib.hid HG
  replace HW := Lib.hid HW
  clear hT
  go_enter Try.func7, Try.ntmps7
  go_wp2_with fail
  refine (HW.out _).mono ?_
  rintro e c1 ⟨b1, k1, rfl, hB, O1, l1, m1⟩
  have W0 : Ints c1 b1 T := O1.sees
  have TW : ∀ g off, b1 = some ⟨g, off, none⟩ → 0 < T.length → g < c1.heap.size := Sees.ltI W0
  have sW := hB.size
  unfold maxLen at m1
  clear O1
  go_wp2_with fail
  refine (HG.out _).mono ?_
  rintro e c2 ⟨b2, k2, rfl, hb, O2, l2, m2⟩
  have G0 : Ints c2 b2 T := O2.sees
  replace W0 := W0.pure hb
  replace hB := below_pure hB hb
  unfold maxLen at m2
  clear hb
  go_wp2_with fail
  refine (eqIntS_any _ _ _ _ _ T _ rfl G0 W0 hTl).mono ?_
  rintro e c3 ⟨rfl, hb⟩
  replace W0 := W0.pure hb
  replace O2 := O2.pure hb
  replace hB := below_pure hB hb
  clear hb G0
  go_wp2_with fail
  refine (markIntS_any _ _ _ _ _ _ O2 hTl).mono ?_
  rintro e c4 ⟨rfl, OM, hb⟩
  replace W0 : Ints c4 b1 T := Sees.belowI W0 hb TW
  replace hB := hB.trans (hb.mono sW)
  clear hb O2
  go_wp2_with fail
  refine (heldIntS_any _ _ _ _ OM.sees hTl).mono ?_
  rintro e c5 ⟨rfl, rfl⟩
  go_wp2_with fail
  refine (HG.out _).mono ?_
  rintro e c6 ⟨b3, k3, rfl, hb, O3, l3, m3⟩
  have H0 : Ints c6 b3 T := O3.sees
  replace W0 := W0.pure hb
  replace OM := OM.pure hb
  replace hB := below_pure hB hb
  unfold maxLen at m3
  clear hb O3
  go_wp2_with fail
  refine (eqIntS_any _ _ _ _ _ T _ rfl H0 W0 hTl).mono ?_
  rintro e c7 ⟨rfl, hb⟩
  replace OM := OM.pure hb
  replace hB := below_pure hB hb
  clear hb
  go_wp2_with fail
  refine (heldIntS_any _ _ _ _ OM.sees hTl).mono ?_
  rintro e c8 ⟨rfl, rfl⟩
  go_wp2
  go_ret
  exact ⟨rfl, hB⟩

end Go.Proofs.Ytgbnaimkpnoeoaa

/- The walk of the law FnExactJoinTies: it returns true, and nothing that was there turns. No condition. -/
import Derived.Test.YtmkkhbplfedpoaaNr
import Derived.Test.YtmkkhbplfedpoaaNm
import Derived.Test.YtmkkhbplfedpoaaJt
namespace Go.Proofs.Ytmkkhbplfedpoaa
open Go.RowKit

set_option maxHeartbeats 2000000 in
set_option maxRecDepth 100000 in
theorem fnExactJoinTies_walk (a : Option Addr) (len cap : Nat) (xs : List (Bool × Int × Int × Int × Int × Bool)) (w : World) (hC : Came w a len cap xs) :
    Calls Try.prog 8 #[.slice a len cap] w (Gives (.bool true) w) := by
  obtain ⟨hxl, V0, hlc, hcm⟩ := hC
  unfold maxLen at hcm
  have HXL := Lib.hid hxl
  clear hxl
  by_cases hbig : (len : Int) ≤ 1048576
  rotate_left
  · have HN := Lib.hid (show (if (len : Int) ≤ 1048576 then 1048576 - (len : Int) else -1) = -1 from if_neg hbig)
    have HS := fun W => szNoteS_any a len cap 1048576 W (by omega) (by omega) (by omega)
    rw [HN.out] at HS
    replace HS := Lib.hid HS
    clear V0
    go_enter Try.func8, Try.ntmps8
    go_wp2_with fail
    refine (HS.out _).mono ?_
    rintro e w1 ⟨rfl, rfl⟩
    go_wp2
    go_ret
    exact ⟨rfl, by go_grown⟩
  have HN := Lib.hid (show (if (len : Int) ≤ 1048576 then 1048576 - (len : Int) else -1) = 1048576 - (len : Int) from if_pos hbig)
  have HS := fun W => szNoteS_any a len cap 1048576 W (by omega) (by omega) (by omega)
  rw [HN.out] at HS
  replace HS := Lib.hid HS
  have hlen : len ≤ 10000000 := by omega
  obtain ⟨T, hT⟩ : ∃ T, jnV xs = T := ⟨_, rfl⟩
  have hTl : T.length ≤ 10000000 := by have h1 := jnV_len xs; rw [hT, HXL.out] at h1; omega
  have HG := fun b c W (hV : Voice W b xs) => joinTies_any b len c xs W HXL.out hV hlen
  have HW := fun b c W (hV : Voice W b xs) => specJoinTies_any b len c xs W HXL.out hV hlen
  rw [hT] at HG HW
  replace HG := Lib.hid HG
  replace HW := Lib.hid HW
  clear hT
  go_enter Try.func8, Try.ntmps8
  go_wp2_with fail
  refine (HS.out _).mono ?_
  rintro e w1 ⟨rfl, rfl⟩
  have hB := Below.refl w.heap.size w
  go_wp2_with fail
  refine (toNoteS_any _ _ _ xs _ HXL.out V0 hlen).mono ?_
  rintro e c1 ⟨bV1, cV1, rfl, hb, OV1, lV1, mV1⟩
  have qV1 := hb.size
  rw [← HXL.out] at OV1
  have V1 : Voice c1 bV1 xs := OV1.sees
  rw [HXL.out] at OV1
  replace V0 := V0.pure hb
  replace hB := below_pure hB hb
  clear hb
  unfold maxLen at mV1
  go_wp2_with fail
  refine (HW.out _ _ _ V1).mono ?_
  rintro e c2 ⟨bW0, cW0, rfl, hb, OW0, lW0, mW0⟩
  have W0 : Voice c2 bW0 T := OW0.sees
  replace V0 := V0.pure hb
  replace V1 := V1.pure hb
  replace OV1 := OV1.pure hb
  replace hB := below_pure hB hb
  clear hb
  unfold maxLen at mW0
  clear V1
  clear OV1
  have sV := hB.size
  have TW : ∀ g off, bW0 = some ⟨g, off, none⟩ → 0 < T.length * 6 → g < c2.heap.size := Sees.lt W0
  have T0 : ∀ g off, a = some ⟨g, off, none⟩ → 0 < xs.length * 6 → g < c2.heap.size := Sees.lt V0
  go_wp2_with fail
  refine (toNoteS_any _ _ _ xs _ HXL.out V0 hlen).mono ?_
  rintro e c3 ⟨bV2, cV2, rfl, hb, OV2, lV2, mV2⟩
  have qV2 := hb.size
  rw [← HXL.out] at OV2
  have V2 : Voice c3 bV2 xs := OV2.sees
  rw [HXL.out] at OV2
  replace V0 := V0.pure hb
  replace W0 := W0.pure hb
  replace OW0 := OW0.pure hb
  replace hB := below_pure hB hb
  clear hb
  unfold maxLen at mV2
  have hsW := hB.size
  have TV : ∀ g off, bV2 = some ⟨g, off, none⟩ → 0 < len → g < c3.heap.size := fun g off e h0 => Sees.lt V2 g off e (by have := HXL.out; omega)
  go_wp2_with fail
  refine (HG.out _ _ _ V2).mono ?_
  rintro e c4 ⟨bG0, cG0, rfl, hb, OG0, lG0, mG0⟩
  have G0 : Voice c4 bG0 T := OG0.sees
  replace V0 := V0.pure hb
  replace W0 := W0.pure hb
  replace V2 := V2.pure hb
  replace OW0 := OW0.pure hb
  replace OV2 := OV2.pure hb
  replace hB := below_pure hB hb
  clear hb
  unfold maxLen at mG0
  go_wp2_with fail
  refine (eqNoteS_any _ _ _ _ _ T _ rfl G0 W0 hTl).mono ?_
  rintro e c5 ⟨rfl, hb⟩
  replace V0 := V0.pure hb
  replace W0 := W0.pure hb
  replace V2 := V2.pure hb
  replace G0 := G0.pure hb
  replace OW0 := OW0.pure hb
  replace OV2 := OV2.pure hb
  replace OG0 := OG0.pure hb
  replace hB := below_pure hB hb
  clear hb
  go_wp2_with fail
  refine (toNoteS_any _ _ _ xs _ HXL.out V0 hlen).mono ?_
  rintro e c6 ⟨bV3, cV3, rfl, hb, OV3, lV3, mV3⟩
  have qV3 := hb.size
  rw [← HXL.out] at OV3
  have V3 : Voice c6 bV3 xs := OV3.sees
  rw [HXL.out] at OV3
  replace V0 := V0.pure hb
  replace W0 := W0.pure hb
  replace V2 := V2.pure hb
  replace G0 := G0.pure hb
  replace OW0 := OW0.pure hb
  replace OV2 := OV2.pure hb
  replace OG0 := OG0.pure hb
  replace hB := below_pure hB hb
  clear hb
  unfold maxLen at mV3
  go_wp2_with fail
  refine (eqNoteS_any _ _ _ _ _ xs _ HXL.out V2 V3 hlen).mono ?_
  rintro e c7 ⟨rfl, hb⟩
  replace V0 := V0.pure hb
  replace W0 := W0.pure hb
  replace V2 := V2.pure hb
  replace G0 := G0.pure hb
  replace V3 := V3.pure hb
  replace OW0 := OW0.pure hb
  replace OV2 := OV2.pure hb
  replace OG0 := OG0.pure hb
  replace OV3 := OV3.pure hb
  replace hB := below_pure hB hb
  clear hb
  clear V3
  clear OV3
  go_wp2_with fail
  refine (markNoteS_any _ _ _ _ _ _ OV2 hlen).mono ?_
  rintro e c8 ⟨rfl, OM, hb, hk⟩
  replace V0 := Sees.below V0 hb T0
  replace W0 := Sees.below W0 hb TW
  replace OG0 := hk _ TV _ _ _ OG0
  replace G0 : Voice c8 bG0 T := OG0.sees
  replace hB := hB.trans (hb.mono sV)
  clear OM hb hk V2 OV2 OW0
  go_wp2_with fail
  refine (eqNoteS_any _ _ _ _ _ T _ rfl G0 W0 hTl).mono ?_
  rintro e c9 ⟨rfl, hb⟩
  replace V0 := V0.pure hb
  replace W0 := W0.pure hb
  replace G0 := G0.pure hb
  replace OG0 := OG0.pure hb
  replace hB := below_pure hB hb
  clear hb
  have TW2 : ∀ g off, bW0 = some ⟨g, off, none⟩ → 0 < T.length * 6 → g < c3.heap.size := fun g off e h0 => Nat.lt_of_lt_of_le (TW g off e h0) qV2
  have T02 : ∀ g off, a = some ⟨g, off, none⟩ → 0 < xs.length * 6 → g < c3.heap.size := fun g off e h0 => Nat.lt_of_lt_of_le (T0 g off e h0) qV2
  go_wp2_with fail
  refine (markNoteS_any _ _ _ _ _ _ OG0 hTl).mono ?_
  rintro e c10 ⟨rfl, OM, hb, hk⟩
  replace V0 := Sees.below V0 hb T02
  replace W0 := Sees.below W0 hb TW2
  replace hB := hB.trans (hb.mono hsW)
  clear hb hk G0 OG0
  go_wp2_with fail
  refine (heldNoteS_any _ _ _ _ OM.sees hTl).mono ?_
  rintro e c11 ⟨rfl, rfl⟩
  go_wp2_with fail
  refine (toNoteS_any _ _ _ xs _ HXL.out V0 hlen).mono ?_
  rintro e c12 ⟨bV4, cV4, rfl, hb, OV4, lV4, mV4⟩
  have qV4 := hb.size
  rw [← HXL.out] at OV4
  have V4 : Voice c12 bV4 xs := OV4.sees
  rw [HXL.out] at OV4
  replace V0 := V0.pure hb
  replace W0 := W0.pure hb
  replace OM := OM.pure hb
  replace hB := below_pure hB hb
  clear hb
  unfold maxLen at mV4
  go_wp2_with fail
  refine (HG.out _ _ _ V4).mono ?_
  rintro e c13 ⟨bH0, cH0, rfl, hb, OH0, lH0, mH0⟩
  have H0 : Voice c13 bH0 T := OH0.sees
  replace V0 := V0.pure hb
  replace W0 := W0.pure hb
  replace V4 := V4.pure hb
  replace OM := OM.pure hb
  replace OV4 := OV4.pure hb
  replace hB := below_pure hB hb
  clear hb
  unfold maxLen at mH0
  go_wp2_with fail
  refine (eqNoteS_any _ _ _ _ _ T _ rfl H0 W0 hTl).mono ?_
  rintro e c14 ⟨rfl, hb⟩
  replace V0 := V0.pure hb
  replace W0 := W0.pure hb
  replace V4 := V4.pure hb
  replace H0 := H0.pure hb
  replace OM := OM.pure hb
  replace OV4 := OV4.pure hb
  replace OH0 := OH0.pure hb
  replace hB := below_pure hB hb
  clear hb
  go_wp2_with fail
  refine (heldNoteS_any _ _ _ _ OM.sees hTl).mono ?_
  rintro e c15 ⟨rfl, rfl⟩
  go_wp2
  go_ret
  exact ⟨rfl, hB⟩
end Go.Proofs.Ytmkkhbplfedpoaa

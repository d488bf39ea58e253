/- The walk of the law FnExactNoteAt: it returns true, and nothing that was there turns. No condition. -/
import Derived.Test.YtmkkhbplfedpoaaNr
import Derived.Test.YtmkkhbplfedpoaaNp
import Derived.Test.YtmkkhbplfedpoaaVt
namespace Go.Proofs.Ytmkkhbplfedpoaa
open Go.RowKit

set_option maxHeartbeats 2000000 in
set_option maxRecDepth 100000 in
theorem fnExactNoteAt_walk (a : Option Addr) (len cap : Nat) (xs : List (Bool × Int × Int × Int × Int × Bool)) (i : Int) (w : World) (hC : Came w a len cap xs) (hw : (Lit.int .i64 i).wf = true) :
    Calls Try.prog 6 #[.slice a len cap, .int .i64 i] w (Gives (.bool true) w) := by
  obtain ⟨hxl, V0, hlc, hcm⟩ := hC
  unfold maxLen at hcm
  have HXL := Lib.hid hxl
  clear hxl
  by_cases hbig : (len : Int) ≤ 1048576
  rotate_left
  · have HN := Lib.hid (show (if (len : Int) ≤ 1048576 then 1048576 - (len : Int) else -1) = -1 from if_neg hbig)
    have HS := fun W => szNoteS_any a len cap 1048576 W (by omega) (by omega) (by omega)
    rw [HN.out] at HS
    replace HS := Lib.hid HS
    clear V0
    go_enter Try.func6, Try.ntmps6
    go_wp2_with fail
    refine (HS.out _).mono ?_
    rintro e w1 ⟨rfl, rfl⟩
    go_wp2
    go_ret
    exact ⟨rfl, by go_grown⟩
  have HN := Lib.hid (show (if (len : Int) ≤ 1048576 then 1048576 - (len : Int) else -1) = 1048576 - (len : Int) from if_pos hbig)
  have HS := fun W => szNoteS_any a len cap 1048576 W (by omega) (by omega) (by omega)
  rw [HN.out] at HS
  replace HS := Lib.hid HS
  have hlen : len ≤ 10000000 := by omega
  have hi : i ≤ 9223372036854775807 := by
    simp only [Lit.wf, Bool.and_eq_true, decide_eq_true_eq] at hw
    have e1 : IntKind.i64.max = 9223372036854775807 := rfl
    rw [e1] at hw
    exact hw.2
  clear hw
  go_enter Try.func6, Try.ntmps6
  go_wp2_with fail
  refine (HS.out _).mono ?_
  rintro e w1 ⟨rfl, rfl⟩
  have hB := Below.refl w.heap.size w
  go_wp2_with fail
  refine (toNoteS_any _ _ _ xs _ HXL.out V0 hlen).mono ?_
  rintro e c1 ⟨bV1, cV1, rfl, hb, OV1, lV1, mV1⟩
  rw [← HXL.out] at OV1
  have V1 : Voice c1 bV1 xs := OV1.sees
  rw [HXL.out] at OV1
  replace V0 := V0.pure hb
  replace hB := below_pure hB hb
  clear hb
  unfold maxLen at mV1
  go_wp2_with fail
  refine (specNoteAt_any _ _ _ xs _ _ HXL.out V1 hlen hi).mono ?_
  rintro e c2 ⟨rfl, hb⟩
  replace V0 := V0.pure hb
  replace V1 := V1.pure hb
  replace OV1 := OV1.pure hb
  replace hB := below_pure hB hb
  clear hb
  clear V1
  clear OV1
  go_wp2_with fail
  refine (toNoteS_any _ _ _ xs _ HXL.out V0 hlen).mono ?_
  rintro e c3 ⟨bV2, cV2, rfl, hb, OV2, lV2, mV2⟩
  rw [← HXL.out] at OV2
  have V2 : Voice c3 bV2 xs := OV2.sees
  rw [HXL.out] at OV2
  replace V0 := V0.pure hb
  replace hB := below_pure hB hb
  clear hb
  unfold maxLen at mV2
  go_wp2_with fail
  refine (noteAt_any _ _ _ xs _ _ HXL.out V2 hlen hi).mono ?_
  rintro e c4 ⟨rfl, hb⟩
  replace V0 := V0.pure hb
  replace V2 := V2.pure hb
  replace OV2 := OV2.pure hb
  replace hB := below_pure hB hb
  clear hb
  go_wp2_with fail
  refine (toNoteS_any _ _ _ xs _ HXL.out V0 hlen).mono ?_
  rintro e c5 ⟨bV3, cV3, rfl, hb, OV3, lV3, mV3⟩
  rw [← HXL.out] at OV3
  have V3 : Voice c5 bV3 xs := OV3.sees
  rw [HXL.out] at OV3
  replace V0 := V0.pure hb
  replace V2 := V2.pure hb
  replace OV2 := OV2.pure hb
  replace hB := below_pure hB hb
  clear hb
  unfold maxLen at mV3
  go_wp2_with fail
  refine (eqNoteS_any _ _ _ _ _ xs _ HXL.out V2 V3 hlen).mono ?_
  rintro e c6 ⟨rfl, hb⟩
  replace V0 := V0.pure hb
  replace V2 := V2.pure hb
  replace V3 := V3.pure hb
  replace OV2 := OV2.pure hb
  replace OV3 := OV3.pure hb
  replace hB := below_pure hB hb
  clear hb
  go_wp2
  go_ret
  exact ⟨rfl, hB⟩
end Go.Proofs.Ytmkkhbplfedpoaa

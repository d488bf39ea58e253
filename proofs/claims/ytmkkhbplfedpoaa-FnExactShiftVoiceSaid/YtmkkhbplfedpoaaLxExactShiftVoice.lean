/- The walk of the law FnExactShiftVoice: it returns true, and nothing that was there turns. No condition. -/
import Derived.Test.YtmkkhbplfedpoaaNr
import Derived.Test.YtmkkhbplfedpoaaNm
import Derived.Test.YtmkkhbplfedpoaaSh
namespace Go.Proofs.Ytmkkhbplfedpoaa
open Go.RowKit

theorem dr_voice {w : World} {a : Option Addr} {L : List (Bool × Int × Int × Int × Int × Bool)} (h : Voice w a L) : Voice w.drew a L := h
theorem dr_sees {w : World} {a : Option Addr} {N : Nat} {c : Nat → Value} (h : Sees w a N c) : Sees w.drew a N c := h

set_option maxHeartbeats 8000000 in
set_option maxRecDepth 100000 in
theorem fnExactShiftVoice_walk (a : Option Addr) (len cap : Nat) (xs : List (Bool × Int × Int × Int × Int × Bool)) (x y : Int) (w : World) (hC : Came w a len cap xs) (_ : (Lit.int .i64 x).wf = true) (_ : (Lit.int .i64 y).wf = true) :
    Calls Try.prog 9 #[.slice a len cap, .agg #[.int .i64 x, .int .i64 y]] w (Gives (.bool true) w) := by
  obtain ⟨hxl, V0, hlc, hcm⟩ := hC
  unfold maxLen at hcm
  have HXL := Lib.hid hxl
  clear hxl
  by_cases hbig : (len : Int) ≤ 1048576
  rotate_left
  · have HN := Lib.hid (show (if (len : Int) ≤ 1048576 then 1048576 - (len : Int) else -1) = -1 from if_neg hbig)
    have HS := fun W => szNoteS_any a len cap 1048576 W (by omega) (by omega) (by omega)
    rw [HN.out] at HS
    replace HS := Lib.hid HS
    clear V0
    go_enter Try.func9, Try.ntmps9
    go_wp2_with fail
    refine (HS.out _).mono ?_
    rintro e w1 ⟨rfl, rfl⟩
    go_wp2
    go_ret
    exact ⟨rfl, by go_grown⟩
  have HN := Lib.hid (show (if (len : Int) ≤ 1048576 then 1048576 - (len : Int) else -1) = 1048576 - (len : Int) from if_pos hbig)
  have HS := fun W => szNoteS_any a len cap 1048576 W (by omega) (by omega) (by omega)
  rw [HN.out] at HS
  replace HS := Lib.hid HS
  have hlen : len ≤ 10000000 := by omega
  obtain ⟨T, hT⟩ : ∃ T, shL xs x y = T := ⟨_, rfl⟩
  obtain ⟨Q, hQ⟩ : ∃ Q, shB xs x y = Q := ⟨_, rfl⟩
  have hTl : T.length ≤ 10000000 := by have h1 := shL_len xs x y; rw [hT, HXL.out] at h1; omega
  have HG := fun b c W (hV : Voice W b xs) => shiftVoice_any b len c xs x y W HXL.out hV hlen
  have HW := fun b c W (hV : Voice W b xs) => specShiftVoice_any b len c xs x y W HXL.out hV hlen
  rw [hT, hQ] at HG HW
  replace HG := Lib.hid HG
  replace HW := Lib.hid HW
  clear hT hQ
  go_enter Try.func9, Try.ntmps9
  go_wp2_with fail
  have k0 : Blk (w.alloc (Obj.cells #[.int .i64 x, .int .i64 y] 44)) w.heap.size 44 #[.int .i64 x, .int .i64 y] := Blk.new _ _ _
  have hB : Below w.heap.size w (w.alloc (Obj.cells #[.int .i64 x, .int .i64 y] 44)) := by go_grown
  replace V0 : Voice (w.alloc (Obj.cells #[.int .i64 x, .int .i64 y] 44)) a xs := V0.pure (by go_grown)
  generalize w.alloc (Obj.cells #[.int .i64 x, .int .i64 y] 44) = c0 at *
  refine (HS.out _).mono ?_
  rintro e w1 ⟨rfl, rfl⟩
  have k0c := Blk.get (i := 0) k0 rfl
  have k0d := Blk.get (i := 1) k0 rfl
  have k0z := k0.lt
  go_upto_region 5 with fail
  go_cut [6, 7] (fun s6 s7 wc => ∃ a6 c6, s6 = .slice a6 T.length c6 ∧ s7 = .bool Q ∧ Voice wc a6 T ∧ T.length ≤ c6 ∧ c6 ≤ maxLen ∧ Voice wc a xs ∧ Blk wc w.heap.size 44 #[.int .i64 x, .int .i64 y] ∧ Below w.heap.size w wc)
  case first =>
    replace V0 := dr_voice V0
    replace k0 := k0.drew
    replace hB := hB.drew
    go_region_with (first | (go_at_call 22; (with_reducible refine (toNoteS_any _ _ _ xs _ HXL.out ?_ hlen).mono ?_); (focus (first | exact V0 | exact V0.drew)); rintro e ca ⟨bX, cX, rfl, hb, OX, lX, mX⟩; have VX : Voice ca bX xs := (by rw [← HXL.out] at OX; exact OX.sees); replace V0 := V0.pure hb; replace k0 := k0.pure hb; replace hB := below_pure (w := w) hB hb; have k0c := Blk.get (i := 0) k0 rfl; have k0d := Blk.get (i := 1) k0 rfl; have k0z := k0.lt; unfold maxLen at mX; clear hb OX) | (go_at_call 36; (with_reducible refine (toInterval_any x y _).mono ?_); rintro e ca ⟨rfl, hb⟩; replace V0 := V0.pure hb; replace VX := VX.pure hb; replace k0 := k0.pure hb; replace hB := below_pure (w := w) hB hb; have k0c := Blk.get (i := 0) k0 rfl; have k0d := Blk.get (i := 1) k0 rfl; have k0z := k0.lt; clear hb) | (go_at_call 35; (with_reducible refine (HW.out _ _ _ VX).mono ?_); rintro e ca ⟨bR, cR, rfl, hb, OR, lR, mR⟩; have VR : Voice ca bR T := OR.sees; replace V0 := V0.pure hb; replace k0 := k0.pure hb; replace hB := below_pure (w := w) hB hb; clear hb OR))
    all_goals
      have HVR := Lib.hid VR
      have HV0 := Lib.hid V0
      have HK0 := Lib.hid k0
      have HBB := Lib.hid hB
      clear VR V0 k0 hB k0c k0d k0z
      go_wp2_with fail
      go_meet
      exact ⟨bR, cR, rfl, rfl, HVR.out, lR, mR, HV0.out, HK0.out, HBB.out⟩
  case rest =>
    clear V0 k0 hB k0c k0d k0z
    obtain ⟨bW0, kW0, rfl, rfl, W0, lW0, mW0, V0, k0, hB⟩ := hcut
    unfold maxLen at mW0
    have sV := hB.size
    have TW : ∀ g off, bW0 = some ⟨g, off, none⟩ → 0 < T.length * 6 → g < wc.heap.size := Sees.lt W0
    have T0 : ∀ g off, a = some ⟨g, off, none⟩ → 0 < xs.length * 6 → g < wc.heap.size := Sees.lt V0
    have TK := k0.lt
    go_wp2_with fail
    refine (toNoteS_any _ _ _ xs _ HXL.out V0 hlen).mono ?_
    rintro e c1 ⟨bV2, cV2, rfl, hb, OV2, lV2, mV2⟩
    have qV2 := hb.size
    rw [← HXL.out] at OV2
    have V2 : Voice c1 bV2 xs := OV2.sees
    rw [HXL.out] at OV2
    replace V0 := V0.pure hb
    replace W0 := W0.pure hb
    replace k0 := k0.pure hb
    replace hB := below_pure hB hb
    clear hb
    unfold maxLen at mV2
    have hsW := hB.size
    have TV : ∀ g off, bV2 = some ⟨g, off, none⟩ → 0 < len → g < c1.heap.size := fun g off e h0 => Sees.lt V2 g off e (by have := HXL.out; omega)
    have k0c := Blk.get (i := 0) k0 rfl
    have k0d := Blk.get (i := 1) k0 rfl
    have k0z := k0.lt
    go_wp2_with fail
    refine (toInterval_any x y _).mono ?_
    rintro e c2 ⟨rfl, hb⟩
    have hszI := hb.size
    clear k0c k0d k0z
    replace V0 := V0.pure hb
    replace W0 := W0.pure hb
    replace V2 := V2.pure hb
    replace k0 := k0.pure hb
    replace OV2 := OV2.pure hb
    replace hB := below_pure hB hb
    clear hb
    go_wp2_with fail
    refine (HG.out _ _ _ V2).mono ?_
    rintro e c3 ⟨bG0, cG0, rfl, hb, OG0, lG0, mG0⟩
    replace OG0 := OG0.less (show c1.heap.size ≤ c2.heap.size from hszI)
    have G0 : Voice c3 bG0 T := OG0.sees
    replace V0 := V0.pure hb
    replace W0 := W0.pure hb
    replace V2 := V2.pure hb
    replace k0 := k0.pure hb
    replace OV2 := OV2.pure hb
    replace hB := below_pure hB hb
    clear hb
    unfold maxLen at mG0
    go_wp2_with fail
    refine (eqNoteS_any _ _ _ _ _ T _ rfl G0 W0 hTl).mono ?_
    rintro e c4 ⟨rfl, hb⟩
    replace V0 := V0.pure hb
    replace W0 := W0.pure hb
    replace V2 := V2.pure hb
    replace G0 := G0.pure hb
    replace k0 := k0.pure hb
    replace OV2 := OV2.pure hb
    replace OG0 := OG0.pure hb
    replace hB := below_pure hB hb
    clear hb
    go_wp2_with fail
    refine (toNoteS_any _ _ _ xs _ HXL.out V0 hlen).mono ?_
    rintro e c5 ⟨bV3, cV3, rfl, hb, OV3, lV3, mV3⟩
    have qV3 := hb.size
    rw [← HXL.out] at OV3
    have V3 : Voice c5 bV3 xs := OV3.sees
    rw [HXL.out] at OV3
    replace V0 := V0.pure hb
    replace W0 := W0.pure hb
    replace V2 := V2.pure hb
    replace G0 := G0.pure hb
    replace k0 := k0.pure hb
    replace OV2 := OV2.pure hb
    replace OG0 := OG0.pure hb
    replace hB := below_pure hB hb
    clear hb
    unfold maxLen at mV3
    go_wp2_with fail
    refine (eqNoteS_any _ _ _ _ _ xs _ HXL.out V2 V3 hlen).mono ?_
    rintro e c6 ⟨rfl, hb⟩
    replace V0 := V0.pure hb
    replace W0 := W0.pure hb
    replace V2 := V2.pure hb
    replace G0 := G0.pure hb
    replace V3 := V3.pure hb
    replace k0 := k0.pure hb
    replace OV2 := OV2.pure hb
    replace OG0 := OG0.pure hb
    replace OV3 := OV3.pure hb
    replace hB := below_pure hB hb
    clear hb
    clear V3
    clear OV3
    go_wp2_with fail
    refine (markNoteS_any _ _ _ _ _ _ OV2 hlen).mono ?_
    rintro e c7 ⟨rfl, OM, hb, hk⟩
    replace V0 := Sees.below V0 hb T0
    replace W0 := Sees.below W0 hb TW
    replace k0 := k0.below hb TK
    replace OG0 := hk _ TV _ _ _ OG0
    replace G0 : Voice c7 bG0 T := OG0.sees
    replace hB := hB.trans (hb.mono sV)
    clear OM hb hk V2 OV2
    go_wp2_with fail
    refine (eqNoteS_any _ _ _ _ _ T _ rfl G0 W0 hTl).mono ?_
    rintro e c8 ⟨rfl, hb⟩
    replace V0 := V0.pure hb
    replace W0 := W0.pure hb
    replace G0 := G0.pure hb
    replace k0 := k0.pure hb
    replace OG0 := OG0.pure hb
    replace hB := below_pure hB hb
    clear hb
    have TW2 : ∀ g off, bW0 = some ⟨g, off, none⟩ → 0 < T.length * 6 → g < c1.heap.size := fun g off e h0 => Nat.lt_of_lt_of_le (TW g off e h0) qV2
    have T02 : ∀ g off, a = some ⟨g, off, none⟩ → 0 < xs.length * 6 → g < c1.heap.size := fun g off e h0 => Nat.lt_of_lt_of_le (T0 g off e h0) qV2
    go_wp2_with fail
    refine (markNoteS_any _ _ _ _ _ _ OG0 hTl).mono ?_
    rintro e c9 ⟨rfl, OM, hb, hk⟩
    replace V0 := Sees.below V0 hb T02
    replace W0 := Sees.below W0 hb TW2
    replace k0 := k0.below hb (Nat.lt_of_lt_of_le TK qV2)
    replace hB := hB.trans (hb.mono hsW)
    clear hb hk G0 OG0
    go_wp2_with fail
    refine (heldNoteS_any _ _ _ _ OM.sees hTl).mono ?_
    rintro e c10 ⟨rfl, rfl⟩
    have SM : Sees c9 bG0 (T.length * 6) markN := OM.sees
    clear OM
    have k0c := Blk.get (i := 0) k0 rfl
    have k0d := Blk.get (i := 1) k0 rfl
    have k0z := k0.lt
    go_upto_region 24 with fail
    go_cut [14, 15] (fun s6 s7 wc => (∃ a6 c6, s6 = .slice a6 T.length c6 ∧ s7 = .bool Q ∧ Voice wc a6 T ∧ T.length ≤ c6 ∧ c6 ≤ maxLen ∧ Voice wc a xs ∧ Blk wc w.heap.size 44 #[.int .i64 x, .int .i64 y] ∧ Below w.heap.size w wc) ∧ Voice wc bW0 T ∧ Sees wc bG0 (T.length * 6) markN)
    case first =>
      replace V0 := dr_voice V0
      replace k0 := k0.drew
      replace hB := hB.drew
      replace W0 := dr_voice W0
      replace SM := dr_sees SM
      go_region_with (first | (go_at_call 22; (with_reducible refine (toNoteS_any _ _ _ xs _ HXL.out ?_ hlen).mono ?_); (focus (first | exact V0 | exact V0.drew)); rintro e ca ⟨bX, cX, rfl, hb, OX, lX, mX⟩; have VX : Voice ca bX xs := (by rw [← HXL.out] at OX; exact OX.sees); replace V0 := V0.pure hb; replace k0 := k0.pure hb; replace hB := below_pure (w := w) hB hb; have k0c := Blk.get (i := 0) k0 rfl; have k0d := Blk.get (i := 1) k0 rfl; have k0z := k0.lt; unfold maxLen at mX; replace W0 := W0.pure hb; replace SM := SM.pure hb; clear hb OX) | (go_at_call 36; (with_reducible refine (toInterval_any x y _).mono ?_); rintro e ca ⟨rfl, hb⟩; replace V0 := V0.pure hb; replace VX := VX.pure hb; replace k0 := k0.pure hb; replace hB := below_pure (w := w) hB hb; have k0c := Blk.get (i := 0) k0 rfl; have k0d := Blk.get (i := 1) k0 rfl; have k0z := k0.lt; replace W0 := W0.pure hb; replace SM := SM.pure hb; clear hb) | (go_at_call 37; (with_reducible refine (HG.out _ _ _ VX).mono ?_); rintro e ca ⟨bR, cR, rfl, hb, OR, lR, mR⟩; have VR : Voice ca bR T := OR.sees; replace V0 := V0.pure hb; replace k0 := k0.pure hb; replace hB := below_pure (w := w) hB hb; replace W0 := W0.pure hb; replace SM := SM.pure hb; clear hb OR))
      all_goals
        have HVR := Lib.hid VR
        have HV0 := Lib.hid V0
        have HK0 := Lib.hid k0
        have HBB := Lib.hid hB
        have HW0 := Lib.hid W0
        have HSM := Lib.hid SM
        clear VR V0 k0 hB k0c k0d k0z W0 SM
        go_wp2_with fail
        go_meet
        exact ⟨⟨bR, cR, rfl, rfl, HVR.out, lR, mR, HV0.out, HK0.out, HBB.out⟩, HW0.out, HSM.out⟩
    case rest =>
      clear V0 k0 hB k0c k0d k0z W0 SM
      obtain ⟨⟨bH0, kH0, rfl, rfl, H0, lH0, mH0, V0, k0, hB⟩, W0, SM⟩ := hcut
      unfold maxLen at mH0
      go_wp2_with fail
      refine (eqNoteS_any _ _ _ _ _ T _ rfl H0 W0 hTl).mono ?_
      rintro e c11 ⟨rfl, hb⟩
      replace V0 := V0.pure hb
      replace W0 := W0.pure hb
      replace H0 := H0.pure hb
      replace k0 := k0.pure hb
      replace SM := SM.pure hb
      replace hB := below_pure hB hb
      clear hb
      go_wp2_with fail
      refine (heldNoteS_any _ _ _ _ SM hTl).mono ?_
      rintro e c12 ⟨rfl, rfl⟩
      go_wp2
      go_ret
      exact ⟨rfl, hB⟩
end Go.Proofs.Ytmkkhbplfedpoaa

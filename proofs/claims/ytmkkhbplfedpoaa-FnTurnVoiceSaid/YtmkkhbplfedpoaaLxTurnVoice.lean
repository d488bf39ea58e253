/- The walk of the law FnTurnVoice: it returns true, and nothing that was there turns. No condition. -/
import Derived.Test.YtmkkhbplfedpoaaDu
import Derived.Test.YtmkkhbplfedpoaaMt
import Derived.Test.YtmkkhbplfedpoaaSv
import Derived.Test.YtmkkhbplfedpoaaAl
namespace Go.Proofs.Ytmkkhbplfedpoaa
open Go.RowKit

set_option maxHeartbeats 4000000 in
set_option maxRecDepth 100000 in
theorem fnTurnVoice_walk (a : Option Addr) (len cap : Nat) (w : World) (hC : Code' w a len cap) :
    Calls Try.prog 14 #[.slice a len cap] w (Gives (.bool true) w) := by
  by_cases hlen : 1048576 < len
  · have hcap : len ≤ 9223372036854775807 := by have h1 := hC.2.1; have h2 := hC.2.2; unfold maxLen at h2; omega
    go_enter Try.func14, Try.ntmps14
    go_wp2
    go_ret
    exact ⟨rfl, by go_grown⟩
  have hlen' : len ≤ 1048576 := by omega
  have HC := Lib.hid hC
  clear hC
  go_enter Try.func14, Try.ntmps14
  go_wp2_with fail
  refine (drawTurnVoice_any _ _ _ _ HC.out hlen').mono ?_
  rintro e c0 ⟨b, cb, xs, rfl, hB, V0, hL, l1, l2⟩
  clear HC
  unfold maxLen at l2
  obtain ⟨T, hT⟩ : ∃ T, trV xs = T := ⟨_, rfl⟩
  have hTl : T.length ≤ 10000000 := by have h1 := trV_len xs; rw [hT] at h1; omega
  have HG := fun W (hV : Voice W b xs) => turnVoice_any b xs.length cb xs W rfl hV (by omega)
  have HW := fun W (hV : Voice W b xs) => specTurnVoice_any b xs.length cb xs W rfl hV (by omega)
  have HV := fun W (hV : Voice W b xs) => specVoiceValid_any b xs.length cb xs W rfl hV (by omega)
  rw [hT] at HG HW
  have HGH := Lib.hid HG
  have HWH := Lib.hid HW
  clear HG HW
  cases hv : vvB xs
  · rw [hv] at HV
    have HVH := Lib.hid HV
    obtain rfl : T = [] := by rw [← hT]; exact trV_f hv
    clear HV hv hT
    go_wp2_with fail
    refine (HGH.out _ V0).mono ?_
    rintro e c1 ⟨bX0, kX0, rfl, hb, OX0, lX0, mX0⟩
    have X0 : Voice c1 bX0 [] := OX0.sees
    replace V0 := V0.pure hb
    replace hB := below_pure hB hb
    clear hb
    unfold maxLen at mX0
    clear OX0
    go_wp2_with fail
    refine (HWH.out _ V0).mono ?_
    rintro e c2 ⟨bY0, kY0, rfl, hb, OY0, lY0, mY0⟩
    have Y0 : Voice c2 bY0 [] := OY0.sees
    replace V0 := V0.pure hb
    replace X0 := X0.pure hb
    replace hB := below_pure hB hb
    clear hb
    unfold maxLen at mY0
    clear OY0
    go_wp2_with fail
    refine (sameVoice_any _ _ _ _ _ [] _ rfl X0 Y0 (by simp)).mono ?_
    rintro e c3 ⟨rfl, hb⟩
    replace V0 := V0.pure hb
    replace X0 := X0.pure hb
    replace Y0 := Y0.pure hb
    replace hB := below_pure hB hb
    clear hb
    go_wp2_with fail
    refine (HVH.out _ V0).mono ?_
    rintro e c4 ⟨rfl, hb⟩
    replace V0 := V0.pure hb
    replace X0 := X0.pure hb
    replace Y0 := Y0.pure hb
    replace hB := below_pure hB hb
    clear hb
    go_wp2_with fail
    refine (alive_any _).mono ?_
    rintro e c5 ⟨rfl, hb⟩
    replace V0 := V0.pure hb
    replace X0 := X0.pure hb
    replace Y0 := Y0.pure hb
    replace hB := below_pure hB hb
    clear hb
    go_wp2
    go_ret
    exact ⟨rfl, hB⟩
  · rw [hv] at HV
    have HVH := Lib.hid HV
    have hTv : vvB T = true := by rw [← hT, trV_t hv]; exact turn_vv hv
    have hTT : trV T = xs := by rw [trV_t hTv, ← hT, trV_t hv]; exact turn_turn hv
    have hTS : vtV T = vtV xs := by rw [vtV_t hTv, vtV_t hv, ← hT, trV_t hv]; exact turn_sum xs
    have HT1 := fun c bb W (hV : Voice W bb T) => voiceValid_any bb T.length c T W rfl hV hTl
    have HT2 := fun c bb W (hV : Voice W bb T) => turnVoice_any bb T.length c T W rfl hV hTl
    have HT3 := fun c bb W (hV : Voice W bb T) => voiceTicksV_any bb T.length c T W rfl hV hTl
    rw [hTv] at HT1
    rw [hTT] at HT2
    rw [hTS] at HT3
    have H1 := Lib.hid HT1
    have H2 := Lib.hid HT2
    have H3 := Lib.hid HT3
    clear HV hv hT hTv hTT hTS HT1 HT2 HT3
    go_wp2_with fail
    refine (HGH.out _ V0).mono ?_
    rintro e c1 ⟨bX0, kX0, rfl, hb, OX0, lX0, mX0⟩
    have X0 : Voice c1 bX0 T := OX0.sees
    replace V0 := V0.pure hb
    replace hB := below_pure hB hb
    clear hb
    unfold maxLen at mX0
    clear OX0
    go_wp2_with fail
    refine (HWH.out _ V0).mono ?_
    rintro e c2 ⟨bY0, kY0, rfl, hb, OY0, lY0, mY0⟩
    have Y0 : Voice c2 bY0 T := OY0.sees
    replace V0 := V0.pure hb
    replace X0 := X0.pure hb
    replace hB := below_pure hB hb
    clear hb
    unfold maxLen at mY0
    clear OY0
    go_wp2_with fail
    refine (sameVoice_any _ _ _ _ _ T _ rfl X0 Y0 hTl).mono ?_
    rintro e c3 ⟨rfl, hb⟩
    replace V0 := V0.pure hb
    replace X0 := X0.pure hb
    replace Y0 := Y0.pure hb
    replace hB := below_pure hB hb
    clear hb
    clear Y0
    go_wp2_with fail
    refine (HVH.out _ V0).mono ?_
    rintro e c4 ⟨rfl, hb⟩
    replace V0 := V0.pure hb
    replace X0 := X0.pure hb
    replace hB := below_pure hB hb
    clear hb
    go_wp2_with fail
    refine (H1.out _ _ _ X0).mono ?_
    rintro e c5 ⟨rfl, hb⟩
    replace V0 := V0.pure hb
    replace X0 := X0.pure hb
    replace hB := below_pure hB hb
    clear hb
    go_wp2_with fail
    refine (H2.out _ _ _ X0).mono ?_
    rintro e c6 ⟨bZ0, kZ0, rfl, hb, OZ0, lZ0, mZ0⟩
    have Z0 : Voice c6 bZ0 xs := OZ0.sees
    replace V0 := V0.pure hb
    replace X0 := X0.pure hb
    replace hB := below_pure hB hb
    clear hb
    unfold maxLen at mZ0
    clear OZ0
    go_wp2_with fail
    refine (sameVoice_any _ _ _ _ _ xs _ rfl Z0 V0 (by omega)).mono ?_
    rintro e c7 ⟨rfl, hb⟩
    replace V0 := V0.pure hb
    replace X0 := X0.pure hb
    replace Z0 := Z0.pure hb
    replace hB := below_pure hB hb
    clear hb
    clear Z0
    go_wp2_with fail
    refine (H3.out _ _ _ X0).mono ?_
    rintro e c8 ⟨rfl, hb⟩
    replace V0 := V0.pure hb
    replace X0 := X0.pure hb
    replace hB := below_pure hB hb
    clear hb
    go_wp2_with fail
    refine (voiceTicksV_any _ _ _ xs _ rfl V0 (by omega)).mono ?_
    rintro e c9 ⟨rfl, hb⟩
    replace V0 := V0.pure hb
    replace X0 := X0.pure hb
    replace hB := below_pure hB hb
    clear hb
    go_wp2
    go_ret
    exact ⟨rfl, hB⟩
end Go.Proofs.Ytmkkhbplfedpoaa

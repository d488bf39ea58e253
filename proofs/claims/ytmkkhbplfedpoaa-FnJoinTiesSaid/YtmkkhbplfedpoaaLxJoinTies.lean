/- The walk of the law FnJoinTies: it returns true, and nothing that was there turns. No condition. -/
import Derived.Test.YtmkkhbplfedpoaaDu
import Derived.Test.YtmkkhbplfedpoaaMt
import Derived.Test.YtmkkhbplfedpoaaJt
import Derived.Test.YtmkkhbplfedpoaaSv
import Derived.Test.YtmkkhbplfedpoaaAl
namespace Go.Proofs.Ytmkkhbplfedpoaa
open Go.RowKit

set_option maxHeartbeats 4000000 in
set_option maxRecDepth 100000 in
theorem fnJoinTies_walk (a : Option Addr) (len cap : Nat) (w : World) (hC : Code' w a len cap) :
    Calls Try.prog 15 #[.slice a len cap] w (Gives (.bool true) w) := by
  by_cases hlen : 1048576 < len
  · have hcap : len ≤ 9223372036854775807 := by have h1 := hC.2.1; have h2 := hC.2.2; unfold maxLen at h2; omega
    go_enter Try.func15, Try.ntmps15
    go_wp2
    go_ret
    exact ⟨rfl, by go_grown⟩
  have hlen' : len ≤ 1048576 := by omega
  have HC := Lib.hid hC
  clear hC
  go_enter Try.func15, Try.ntmps15
  go_wp2_with fail
  refine (drawJoinTies_any _ _ _ _ HC.out hlen').mono ?_
  rintro e c0 ⟨b, cb, xs, rfl, hB, V0, hL, l1, l2⟩
  clear HC
  unfold maxLen at l2
  obtain ⟨T, hT⟩ : ∃ T, jnV xs = T := ⟨_, rfl⟩
  have hTl : T.length ≤ 10000000 := by have h1 := jnV_len xs; rw [hT] at h1; omega
  have HG := fun W (hV : Voice W b xs) => joinTies_any b xs.length cb xs W rfl hV (by omega)
  have HW := fun W (hV : Voice W b xs) => specJoinTies_any b xs.length cb xs W rfl hV (by omega)
  have HV := fun W (hV : Voice W b xs) => specVoiceValid_any b xs.length cb xs W rfl hV (by omega)
  rw [hT] at HG HW
  have HGH := Lib.hid HG
  have HWH := Lib.hid HW
  clear HG HW
  cases hv : vvB xs
  · rw [hv] at HV
    have HVH := Lib.hid HV
    obtain rfl : T = [] := by rw [← hT]; exact jnV_f hv
    clear HV hv hT
    go_wp2_with fail
    refine (HGH.out _ V0).mono ?_
    rintro e c1 ⟨bX0, kX0, rfl, hb, OX0, lX0, mX0⟩
    have X0 : Voice c1 bX0 [] := OX0.sees
    replace V0 := V0.pure hb
    replace hB := below_pure hB hb
    clear hb
    unfold maxLen at mX0
    clear OX0
    go_wp2_with fail
    refine (HWH.out _ V0).mono ?_
    rintro e c2 ⟨bY0, kY0, rfl, hb, OY0, lY0, mY0⟩
    have Y0 : Voice c2 bY0 [] := OY0.sees
    replace V0 := V0.pure hb
    replace X0 := X0.pure hb
    replace hB := below_pure hB hb
    clear hb
    unfold maxLen at mY0
    clear OY0
    go_wp2_with fail
    refine (sameVoice_any _ _ _ _ _ [] _ rfl X0 Y0 (by simp)).mono ?_
    rintro e c3 ⟨rfl, hb⟩
    replace V0 := V0.pure hb
    replace X0 := X0.pure hb
    replace Y0 := Y0.pure hb
    replace hB := below_pure hB hb
    clear hb
    go_wp2_with fail
    refine (HVH.out _ V0).mono ?_
    rintro e c4 ⟨rfl, hb⟩
    replace V0 := V0.pure hb
    replace X0 := X0.pure hb
    replace Y0 := Y0.pure hb
    replace hB := below_pure hB hb
    clear hb
    go_wp2_with fail
    refine (alive_any _).mono ?_
    rintro e c5 ⟨rfl, hb⟩
    replace V0 := V0.pure hb
    replace X0 := X0.pure hb
    replace Y0 := Y0.pure hb
    replace hB := below_pure hB hb
    clear hb
    go_wp2
    go_ret
    exact ⟨rfl, hB⟩
  · rw [hv] at HV
    have HVH := Lib.hid HV
    have hTj : T = joinF xs := by rw [← hT, jnV_t hv]
    have hTv : vvB T = true := by rw [hTj]; exact joinF_vv hv
    have hTT : jnV T = T := by rw [jnV_t hTv, hTj]; exact joinF_again hv
    have hsum : sumT T = sumT xs := by rw [hTj]; exact joinF_sum xs
    have hTS : vtV T = vtV xs := by rw [vtV_t hTv, vtV_t hv]; exact hsum
    have hVS : vtV xs = sumT xs := vtV_t hv
    have hTle : T.length ≤ xs.length := by rw [hTj]; exact joinF_len xs
    have hTOT := (tS_bd hv xs.length (Nat.le_refl _)).2
    have h60 := (vv_all hv).1
    have hSND := fun i => (show sA T i = sA xs i by rw [hTj]; exact joinF_sound hv i)
    have hNA := fun i (h0 : 0 ≤ i) (h1 : i < sumT xs) => na_found hv h0 h1
    have hNB := fun i (h0 : 0 ≤ i) (h1 : i < sumT xs) => na_found hTv h0 (by rw [hsum]; exact h1)
    have HT0 := fun W (hV : Voice W b xs) => voiceTicksV_any b xs.length cb xs W rfl hV (by omega)
    have HT1 := fun c bb W (hV : Voice W bb T) => voiceValid_any bb T.length c T W rfl hV hTl
    have HT2 := fun c bb W (hV : Voice W bb T) => joinTies_any bb T.length c T W rfl hV hTl
    have HT3 := fun c bb W (hV : Voice W bb T) => voiceTicksV_any bb T.length c T W rfl hV hTl
    rw [hTv] at HT1
    rw [hTT] at HT2
    rw [hTS, hVS] at HT3
    rw [hVS] at HT0
    have H0 := Lib.hid HT0
    have H1 := Lib.hid HT1
    have H2 := Lib.hid HT2
    have H3 := Lib.hid HT3
    have HSND := Lib.hid hSND
    have HNA := Lib.hid hNA
    have HNB := Lib.hid hNB
    have hTOT2 : sumT xs ≤ 46080 := by unfold sumT; omega
    clear HV hv hT hTv hTT hTS HT0 HT1 HT2 HT3 hTj hsum hVS hSND hNA hNB hTOT
    generalize sumT xs = TOT at *
    go_wp2_with fail
    refine (HGH.out _ V0).mono ?_
    rintro e c1 ⟨bX0, kX0, rfl, hb, OX0, lX0, mX0⟩
    have X0 : Voice c1 bX0 T := OX0.sees
    replace V0 := V0.pure hb
    replace hB := below_pure hB hb
    clear hb
    unfold maxLen at mX0
    clear OX0
    go_wp2_with fail
    refine (HWH.out _ V0).mono ?_
    rintro e c2 ⟨bY0, kY0, rfl, hb, OY0, lY0, mY0⟩
    have Y0 : Voice c2 bY0 T := OY0.sees
    replace V0 := V0.pure hb
    replace X0 := X0.pure hb
    replace hB := below_pure hB hb
    clear hb
    unfold maxLen at mY0
    clear OY0
    go_wp2_with fail
    refine (sameVoice_any _ _ _ _ _ T _ rfl X0 Y0 hTl).mono ?_
    rintro e c3 ⟨rfl, hb⟩
    replace V0 := V0.pure hb
    replace X0 := X0.pure hb
    replace Y0 := Y0.pure hb
    replace hB := below_pure hB hb
    clear hb
    clear Y0
    go_wp2_with fail
    refine (HVH.out _ V0).mono ?_
    rintro e c4 ⟨rfl, hb⟩
    replace V0 := V0.pure hb
    replace X0 := X0.pure hb
    replace hB := below_pure hB hb
    clear hb
    have HV0 := Lib.hid V0
    have HX0 := Lib.hid X0
    have HB := Lib.hid hB
    clear V0 X0 hB
    go_wp2_with fail
    go_loopw [5] (fun iv wr => ∃ i : Int, iv = .int .i64 i ∧ 0 ≤ i ∧ i ≤ 50000 ∧ Voice wr b xs ∧ Voice wr bX0 T ∧ Below w.heap.size w wr) (fun iv _ => (50000 - intOf iv).toNat)
    case atStart => exact ⟨0, rfl, by omega, by omega, HV0.out, HX0.out, HB.out⟩
    case round =>
      clear HV0 HX0 HB
      obtain ⟨i, rfl, hi0, hi1, V0, X0, hB⟩ := hrel
      go_wp2_with fail
      refine (H0.out _ V0).mono ?_
      rintro e c5 ⟨rfl, hb⟩
      replace V0 := V0.pure hb
      replace X0 := X0.pure hb
      replace hB := below_pure hB hb
      clear hb
      by_cases hlt : i < TOT
      · obtain ⟨ka, xa, ea, hxa, -, -, sa⟩ := HNA.out i hi0 hlt
        obtain ⟨kb, xb, eb, hxb, -, -, sb⟩ := HNB.out i hi0 hlt
        rw [HSND.out i, sa] at sb
        have hP : nP xa = nP xb := by injection sb
        have HNa := fun W (hV : Voice W b xs) => noteAt_any b xs.length cb xs i W rfl hV (by omega) (by omega)
        have HNb := fun c bb W (hV : Voice W bb T) => noteAt_any bb T.length c T i W rfl hV hTl (by omega)
        rw [ea] at HNa
        rw [eb] at HNb
        have HNA2 := Lib.hid HNa
        have HNB2 := Lib.hid HNb
        obtain ⟨r, s, x, o, t, d⟩ := xa
        obtain ⟨r', s', x', o', t', d'⟩ := xb
        have e1 : r' = r ∧ s' = s ∧ x' = x ∧ o' = o := by simp [nP] at hP; obtain ⟨h1, h2, h3, h4⟩ := hP; exact ⟨h1.symm, h2.symm, h3.symm, h4.symm⟩
        obtain ⟨rfl, rfl, rfl, rfl⟩ := e1
        have hka : ka < xs.length := (List.getElem?_eq_some_iff.1 hxa).1
        have hkb : kb < T.length := (List.getElem?_eq_some_iff.1 hxb).1
        have HXA := Lib.hid hxa
        have HXB := Lib.hid hxb
        clear ea eb sa sb hP HNa HNb hxa hxb
        go_wp2_with fail
        refine (HNA2.out _ V0).mono ?_
        rintro e c6 ⟨rfl, hb⟩
        replace V0 := V0.pure hb
        replace X0 := X0.pure hb
        replace hB := below_pure hB hb
        clear hb
        go_wp2_with fail
        refine (HNB2.out _ _ _ X0).mono ?_
        rintro e c7 ⟨rfl, hb⟩
        replace V0 := V0.pure hb
        replace X0 := X0.pure hb
        replace hB := below_pure hB hb
        clear hb
        obtain ⟨g, off, rfl, hc⟩ := id V0 (by omega)
        obtain ⟨q0, q1, q2, q3, q4, q5⟩ := at6 hc hka HXA.out
        clear hc
        obtain ⟨g', off', rfl, hc⟩ := id X0 (by omega)
        obtain ⟨p0, p1, p2, p3, p4, p5⟩ := at6 hc hkb HXB.out
        have a1 : (ka : Int) < (xs.length : Int) := by omega
        have a2 : (kb : Int) < (T.length : Int) := by omega
        have a3 : (0 : Int) ≤ (ka : Int) := by omega
        have a4 : (0 : Int) ≤ (kb : Int) := by omega
        have a5 : decide ((ka : Int) < 0) = false := by simp
        have a6 : decide ((kb : Int) < 0) = false := by simp
        have HV0 := Lib.hid V0
        have HX0 := Lib.hid X0
        have HB := Lib.hid hB
        clear V0 X0 hB hc
        go_upto_region 14 with fail
        go_cut [72] (fun v wc => v = .bool false ∧ Voice wc (some ⟨g, off, none⟩) xs ∧ Voice wc (some ⟨g', off', none⟩) T ∧ Below w.heap.size w wc)
        case first =>
          go_quiet (fail)
          go_wp2_with fail
          go_meet
          exact ⟨rfl, HV0.out, HX0.out, below_drewN HB.out _⟩
        case rest =>
          clear HV0 HX0 HB q0 q1 q2 q3 q4 q5 p0 p1 p2 p3 p4 p5
          obtain ⟨rfl, V0, X0, hB⟩ := hcut
          have HV0 := Lib.hid V0
          have HX0 := Lib.hid X0
          have HB := Lib.hid hB
          clear V0 X0 hB
          go_wp2_with fail
          go_roundw
          case rel => exact ⟨i + 7, rfl, by omega, by omega, HV0.out, HX0.out, HB.out⟩
          case measure => simp [intOf]; omega
      · have hTX : (T.length : Int) ≤ (xs.length : Int) := by omega
        go_wp2_with fail
        refine (H1.out _ _ _ X0).mono ?_
        rintro e c8 ⟨rfl, hb⟩
        replace V0 := V0.pure hb
        replace X0 := X0.pure hb
        replace hB := below_pure hB hb
        clear hb
        go_wp2_with fail
        refine (H3.out _ _ _ X0).mono ?_
        rintro e c9 ⟨rfl, hb⟩
        replace V0 := V0.pure hb
        replace X0 := X0.pure hb
        replace hB := below_pure hB hb
        clear hb
        go_wp2_with fail
        refine (H0.out _ V0).mono ?_
        rintro e c10 ⟨rfl, hb⟩
        replace V0 := V0.pure hb
        replace X0 := X0.pure hb
        replace hB := below_pure hB hb
        clear hb
        go_wp2_with fail
        refine (H2.out _ _ _ X0).mono ?_
        rintro e c11 ⟨bZ0, kZ0, rfl, hb, OZ0, lZ0, mZ0⟩
        have Z0 : Voice c11 bZ0 T := OZ0.sees
        replace V0 := V0.pure hb
        replace X0 := X0.pure hb
        replace hB := below_pure hB hb
        clear hb
        unfold maxLen at mZ0
        clear OZ0
        go_wp2_with fail
        refine (sameVoice_any _ _ _ _ _ T _ rfl Z0 X0 hTl).mono ?_
        rintro e c12 ⟨rfl, hb⟩
        replace V0 := V0.pure hb
        replace X0 := X0.pure hb
        replace Z0 := Z0.pure hb
        replace hB := below_pure hB hb
        clear hb
        go_wp2
        go_ret
        exact ⟨rfl, hB⟩
end Go.Proofs.Ytmkkhbplfedpoaa

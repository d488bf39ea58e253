/- The walk of the law FnNoteAt: it returns true, and nothing that was there turns. No condition. -/
import Derived.Test.YtmkkhbplfedpoaaDm
import Derived.Test.YtmkkhbplfedpoaaMt
import Derived.Test.YtmkkhbplfedpoaaSv
import Derived.Test.YtmkkhbplfedpoaaAl
namespace Go.Proofs.Ytmkkhbplfedpoaa
open Go.RowKit

theorem na_dec (xs : List (Bool × Int × Int × Int × Int × Bool)) (i : Int) : (naV xs i = -1 ∧ (i < 0 ∨ (0 ≤ i ∧ vtV xs ≤ i))) ∨ (vvB xs = true ∧ ∃ (k : Nat) (x : N6), naV xs i = (k : Int) ∧ xs[k]? = some x ∧ tS xs k ≤ i ∧ i < tS xs (k + 1)) := by
  cases hv : vvB xs
  · left
    refine ⟨naV_f hv, ?_⟩
    rw [vtV_f hv]
    omega
  · by_cases h0 : i < 0
    · exact .inl ⟨naV_neg h0, .inl h0⟩
    · by_cases h1 : i < sumT xs
      · obtain ⟨k, x, h2, h3, h4, h5, -⟩ := na_found hv (by omega) h1
        exact .inr ⟨rfl, k, x, h2, h3, h4, h5⟩
      · left
        have e : vtV xs = sumT xs := vtV_t hv
        refine ⟨?_, .inr ⟨by omega, by omega⟩⟩
        by_cases hn : naV xs i < 0
        · exact (na_none hn).1
        · exfalso
          have hlt : naV xs i = -1 := naV_none fun j hj => by
            have h2 := tS_drop xs (j + 1) (xs.length - (j + 1))
            rw [show j + 1 + (xs.length - (j + 1)) = xs.length by omega] at h2
            have h3 := tS_bd (vv_drop hv (j + 1)) (xs.length - (j + 1)) (by rw [List.length_drop]; exact Nat.le_refl _)
            unfold sumT at h1
            omega
          omega

set_option maxHeartbeats 4000000 in
set_option maxRecDepth 100000 in
theorem fnNoteAt_walk (a : Option Addr) (len cap : Nat) (w : World) (hC : Code' w a len cap) :
    Calls Try.prog 13 #[.slice a len cap] w (Gives (.bool true) w) := by
  by_cases hlen : 1048576 < len
  · have hcap : len ≤ 9223372036854775807 := by have h1 := hC.2.1; have h2 := hC.2.2; unfold maxLen at h2; omega
    go_enter Try.func13, Try.ntmps13
    go_wp2
    go_ret
    exact ⟨rfl, by go_grown⟩
  have hlen' : len ≤ 1048576 := by omega
  have HC := Lib.hid hC
  clear hC
  go_enter Try.func13, Try.ntmps13
  go_wp2_with fail
  refine (drawNoteAt_any _ _ _ _ HC.out hlen').mono ?_
  rintro e c0 ⟨b, cb, xs, i, rfl, ⟨hi0, hi1⟩, hB, V0, hL, l1, l2⟩
  clear HC
  unfold maxLen at l2
  obtain ⟨N, hN⟩ : ∃ N, xs.length = N := ⟨_, rfl⟩
  rw [hN] at hL l1 ⊢
  have HV := fun W (hV : Voice W b xs) => noteAt_any b N cb xs i W hN hV (by omega) hi1
  have HW := fun W (hV : Voice W b xs) => specNoteAt_any b N cb xs i W hN hV (by omega) hi1
  have HT := fun W (hV : Voice W b xs) => voiceTicksV_any b N cb xs W hN hV (by omega)
  have HT1 := Lib.hid HT
  clear HT
  rcases na_dec xs i with ⟨hna, hc⟩ | ⟨hv, k, x, hna, hxk, ha, hb'⟩
  · rw [hna] at HV HW
    have H1 := Lib.hid HV
    have H2 := Lib.hid HW
    clear HV HW hna hN
    rcases hc with hc | ⟨hc, hd⟩
    · skip
      go_wp2_with fail
      refine (H1.out _ V0).mono ?_
      rintro e c1 ⟨rfl, hb⟩
      replace V0 := V0.pure hb
      replace hB := below_pure hB hb
      clear hb
      go_wp2_with fail
      refine (H2.out _ V0).mono ?_
      rintro e c2 ⟨rfl, hb⟩
      replace V0 := V0.pure hb
      replace hB := below_pure hB hb
      clear hb
      go_wp2_with fail
      refine (alive_any _).mono ?_
      rintro e c3 ⟨rfl, hb⟩
      replace V0 := V0.pure hb
      replace hB := below_pure hB hb
      clear hb
      go_wp2
      go_ret
      exact ⟨rfl, hB⟩
    · have hcn : ¬ i < 0 := by omega
      generalize vtV xs = VT at *
      go_wp2_with fail
      refine (H1.out _ V0).mono ?_
      rintro e c1 ⟨rfl, hb⟩
      replace V0 := V0.pure hb
      replace hB := below_pure hB hb
      clear hb
      go_wp2_with fail
      refine (H2.out _ V0).mono ?_
      rintro e c2 ⟨rfl, hb⟩
      replace V0 := V0.pure hb
      replace hB := below_pure hB hb
      clear hb
      go_wp2_with fail
      refine (HT1.out _ V0).mono ?_
      rintro e c3 ⟨rfl, hb⟩
      replace V0 := V0.pure hb
      replace hB := below_pure hB hb
      clear hb
      go_wp2_with fail
      refine (alive_any _).mono ?_
      rintro e c4 ⟨rfl, hb⟩
      replace V0 := V0.pure hb
      replace hB := below_pure hB hb
      clear hb
      go_wp2
      go_ret
      exact ⟨rfl, hB⟩
  · rw [hna] at HV HW
    have H1 := Lib.hid HV
    have H2 := Lib.hid HW
    have hkN : k < N := by rw [← hN]; exact (List.getElem?_eq_some_iff.1 hxk).1
    have hb60 : N ≤ 60 := by have := (vv_all hv).1; omega
    have hbd := fun j (hj : j ≤ N) => tS_bd hv j (by omega)
    have HBD := Lib.hid hbd
    have HN := Lib.hid hN
    have HV2 := Lib.hid hv
    have HXK := Lib.hid hxk
    have hsx := tS_succ xs k
    rw [tk_get hxk] at hsx
    have HSX := Lib.hid hsx
    have HA := Lib.hid ha
    have HBB := Lib.hid hb'
    clear HV HW hna hN hbd hv hxk hsx ha hb'
    go_wp2_with fail
    refine (H1.out _ V0).mono ?_
    rintro e c1 ⟨rfl, hb⟩
    replace V0 := V0.pure hb
    replace hB := below_pure hB hb
    clear hb
    go_wp2_with fail
    refine (H2.out _ V0).mono ?_
    rintro e c2 ⟨rfl, hb⟩
    replace V0 := V0.pure hb
    replace hB := below_pure hB hb
    clear hb
    have HV0 := Lib.hid V0
    have HB := Lib.hid hB
    clear V0 hB
    go_wp2_with fail
    go_loop [6, 7] (fun av kv => ∃ j : Nat, j ≤ k ∧ kv = .int .i64 (j : Int) ∧ av = .int .i64 (tS xs j)) (fun _ kv => k - (intOf kv).toNat)
    case atStart => exact ⟨0, Nat.zero_le _, rfl, rfl⟩
    case round =>
      obtain ⟨j, hj, rfl, rfl⟩ := hrel
      by_cases hlt : j < k
      · obtain ⟨⟨r, s, y, o, t, d⟩, hxj⟩ := nth (xs := xs) (k := j) (by have := HN.out; omega)
        obtain ⟨g, off, rfl, hc⟩ := HV0.out (by have := HN.out; omega)
        rw [HN.out] at hc
        obtain ⟨q0, q1, q2, q3, q4, q5⟩ := at6 hc (show j < N by omega) hxj
        have hs := tS_succ xs j
        rw [tk_at hxj] at hs
        have h1 := HBD.out j (by omega)
        have h2 := HBD.out (j + 1) (by omega)
        rw [← hs] at h2
        have HS := Lib.hid hs
        have a1 : (j : Int) < (k : Int) := by omega
        have a2 : (j : Int) < (N : Int) := by omega
        clear hc hxj hs
        generalize tS xs j = TJ at *
        have hw : IntKind.i64.wrap (TJ + t) = TJ + t := IntWalk.i64_in _ (by omega)
        go_wp2_with fail
        go_round
        case rel => exact ⟨j + 1, by omega, by go_num, by rw [← HS.out]⟩
        case measure => simp [intOf]; omega
      · obtain rfl : j = k := by omega
        obtain ⟨r, s, y, o, t, d⟩ := x
        obtain ⟨g, off, rfl, hc⟩ := HV0.out (by have := HN.out; omega)
        rw [HN.out] at hc
        obtain ⟨q0, q1, q2, q3, q4, q5⟩ := at6 hc (show j < N by omega) HXK.out
        have h1 := HBD.out j (by omega)
        have h2 := HBD.out (j + 1) (by omega)
        have ha := HA.out
        have hb1 := HBB.out
        have hs : tS xs j + t = tS xs (j + 1) := HSX.out
        rw [← hs] at hb1 h2
        have a2 : (j : Int) < (N : Int) := by omega
        have hB := HB.out
        clear hc hs HSX HBB HA HB HV0
        generalize tS xs j = TJ at *
        have hw : IntKind.i64.wrap (TJ + t) = TJ + t := IntWalk.i64_in _ (by omega)
        go_wp2
        go_ret
        exact ⟨by first | rfl | (simp; omega), hB⟩
end Go.Proofs.Ytmkkhbplfedpoaa

/- The walk of the law FnVoiceTicks: it returns true, and nothing that was there turns. No condition. -/
import Derived.Test.YtmkkhbplfedpoaaDu
import Derived.Test.YtmkkhbplfedpoaaMt
import Derived.Test.YtmkkhbplfedpoaaSv
import Derived.Test.YtmkkhbplfedpoaaAl
import Derived.Deep.RegionHeld3
namespace Go.Proofs.Ytmkkhbplfedpoaa
open Go.RowKit

set_option maxHeartbeats 4000000 in
set_option maxRecDepth 100000 in
theorem fnVoiceTicks_walk (a : Option Addr) (len cap : Nat) (w : World) (hC : Code' w a len cap) :
    Calls Try.prog 12 #[.slice a len cap] w (Gives (.bool true) w) := by
  by_cases hlen : 1048576 < len
  · have hcap : len ≤ 9223372036854775807 := by have h1 := hC.2.1; have h2 := hC.2.2; unfold maxLen at h2; omega
    go_enter Try.func12, Try.ntmps12
    go_wp2
    go_ret
    exact ⟨rfl, by go_grown⟩
  have hlen' : len ≤ 1048576 := by omega
  have HC := Lib.hid hC
  clear hC
  go_enter Try.func12, Try.ntmps12
  go_wp2_with fail
  refine (drawVoiceTicks_any _ _ _ _ HC.out hlen').mono ?_
  rintro e c0 ⟨b, cb, xs, rfl, hB, V0, hL, l1, l2⟩
  clear HC
  unfold maxLen at l2
  obtain ⟨N, hN⟩ : ∃ N, xs.length = N := ⟨_, rfl⟩
  rw [hN] at hL l1 ⊢
  have HV := fun W (hV : Voice W b xs) => voiceTicksV_any b N cb xs W hN hV (by omega)
  have HW := fun W (hV : Voice W b xs) => specVoiceTicks_any b N cb xs W hN hV (by omega)
  cases hv : vvB xs
  · rw [vtV_f hv] at HV HW
    have H1 := Lib.hid HV
    have H2 := Lib.hid HW
    clear HV HW hv hN
    go_wp2_with fail
    refine (H1.out _ V0).mono ?_
    rintro e c1 ⟨rfl, hb⟩
    replace V0 := V0.pure hb
    replace hB := below_pure hB hb
    clear hb
    go_wp2_with fail
    refine (H2.out _ V0).mono ?_
    rintro e c2 ⟨rfl, hb⟩
    replace V0 := V0.pure hb
    replace hB := below_pure hB hb
    clear hb
    go_wp2_with fail
    refine (alive_any _).mono ?_
    rintro e c3 ⟨rfl, hb⟩
    replace V0 := V0.pure hb
    replace hB := below_pure hB hb
    clear hb
    go_wp2
    go_ret
    exact ⟨rfl, hB⟩
  · have hbd := tS_bd hv xs.length (Nat.le_refl _)
    rw [vtV_t hv] at HV HW
    rw [hN] at HV HW hbd
    have H1 := Lib.hid HV
    have H2 := Lib.hid HW
    clear HV HW
    have h60 : N ≤ 60 := by have := (vv_all hv).1; omega
    have hTD := fun k (hk : k ≤ N) => (show tS xs k + tS (xs.drop k) (N - k) = tS xs N by rw [tS_drop xs k (N - k), show k + (N - k) = N by omega])
    have HTD := Lib.hid hTD
    have HVV := Lib.hid hv
    have HN := Lib.hid hN
    have HBD := Lib.hid (fun k (hk : k ≤ N) => tS_bd hv k (by omega))
    clear hTD hv hN
    generalize hTN : tS xs N = TN at *
    have HTN := Lib.hid hTN
    clear hTN
    go_wp2_with fail
    refine (H1.out _ V0).mono ?_
    rintro e c1 ⟨rfl, hb⟩
    replace V0 := V0.pure hb
    replace hB := below_pure hB hb
    clear hb
    go_wp2_with fail
    refine (H2.out _ V0).mono ?_
    rintro e c2 ⟨rfl, hb⟩
    replace V0 := V0.pure hb
    replace hB := below_pure hB hb
    clear hb
    have HV0 := Lib.hid V0
    have HB := Lib.hid hB
    clear V0 hB
    go_wp2_with fail
    go_loopw [5] (fun kv wr => ∃ k : Nat, k ≤ N + 1 ∧ 1 ≤ k ∧ kv = .int .i64 (k : Int) ∧ Voice wr b xs ∧ Below w.heap.size w wr) (fun kv _ => N - (intOf kv).toNat)
    case atStart => exact ⟨1, by omega, by omega, rfl, HV0.out, HB.out⟩
    case round =>
      clear HV0 HB
      obtain ⟨k, hk, hk1, rfl, V0, hB⟩ := hrel
      have hsz := hB.size
      by_cases hlt : k < N
      · obtain ⟨j, rfl⟩ : ∃ j, k = j + 1 := ⟨k - 1, by omega⟩
        obtain ⟨⟨r, s, x, o, t, d⟩, hxk⟩ := nth (xs := xs) (k := j) (by have := HN.out; omega)
        obtain ⟨g, off, rfl, hc⟩ := id V0 (by have := HN.out; omega)
        rw [HN.out] at hc
        obtain ⟨q0, q1, q2, q3, q4, q5⟩ := at6 hc (show j < N by omega) hxk
        have VT := V0.take (k := j + 1) (by have := HN.out; omega)
        have VD := V0.drop (j + 1)
        have hj1 : ((j + 1 : Nat) : Int) - 1 = (j : Int) := by omega
        have hw1 : IntKind.i64.wrap (((j + 1 : Nat) : Int) - 1) = (j : Int) := by rw [hj1]; exact IntWalk.i64_in _ (by omega)
        have hw1' : IntKind.i64.wrap ((j : Int) + 1 - 1) = (j : Int) := by rw [show (j : Int) + 1 - 1 = (j : Int) by omega]; exact IntWalk.i64_in _ (by omega)
        have hw0 : IntKind.i64.wrap (j : Int) = (j : Int) := IntWalk.i64_in _ (by omega)
        have hj2 : (j : Int) < (N : Int) := by omega
        have hj3 : (j : Int) + 1 < (N : Int) := by omega
        have hj4 : (j : Int) + 1 < (cb : Int) := by omega
        have hj0 : (0 : Int) ≤ (j : Int) := by omega
        have hk0 : (0 : Int) ≤ (j : Int) + 1 := by omega
        have hk1 : (j : Int) + 1 ≤ (N : Int) := by omega
        have hk2 : (j : Int) + 1 ≤ (cb : Int) := by omega
        have hk3 : (N : Int) ≤ (cb : Int) := by omega
        have hk4 : (j : Int) ≤ (N : Int) := by omega
        have hk5 : ((j : Int) + 1).toNat = j + 1 := by omega
        clear q0 q1 q2 q3 q4 hc
        go_upto_region 12 with fail
        go_cut [49] (fun v wc => v = .bool false ∧ Voice wc (some ⟨g, off, none⟩) xs ∧ Below w.heap.size w wc)
        case first =>
          cases d
          · have et := vv_take_t HVV.out (k := j + 1) (.inr ⟨_, hxk, rfl⟩)
            have ed := vv_drop HVV.out (j + 1)
            have hlt1 : (xs.take (j + 1)).length = j + 1 := by rw [List.length_take]; have := HN.out; omega
            have hld1 : (xs.drop (j + 1)).length = N - (j + 1) := by rw [List.length_drop, HN.out]
            have HA := fun c bb W (hV : Voice W bb (xs.take (j + 1))) => voiceTicksV_any bb (j + 1) c (xs.take (j + 1)) W hlt1 hV (by omega)
            have HD := fun c bb W (hV : Voice W bb (xs.drop (j + 1))) => voiceTicksV_any bb (N - (j + 1)) c (xs.drop (j + 1)) W hld1 hV (by omega)
            rw [vtV_t et, hlt1, tS_take xs (j + 1) (j + 1) (Nat.le_refl _)] at HA
            rw [vtV_t ed, hld1] at HD
            have hsum := HTD.out (j + 1) (by omega)
            have hb1 := HBD.out (j + 1) (by omega)
            generalize tS xs (j + 1) = X1 at *
            generalize tS (xs.drop (j + 1)) (N - (j + 1)) = X2 at *
            have hw2 : IntKind.i64.wrap (X1 + X2) = TN := by rw [hsum]; exact IntWalk.i64_in _ (by omega)
            have hnl : N - (j + 1) = N - (j + 1) := rfl
            have HAH := Lib.hid HA
            have HDH := Lib.hid HD
            clear et ed HA HD hlt1 hld1 hsum hb1 hnl hxk
            go_region_held3 (fun w' => w'.cell? ⟨g, off + j * 6 + 5, none⟩ = some (.bool false) ∧ Voice w' (some ⟨g, off, none⟩) (xs.take (j + 1)) ∧ Voice w' (some ⟨g, off + (j + 1) * 6, none⟩) (xs.drop (j + 1)) ∧ Voice w' (some ⟨g, off, none⟩) xs ∧ Below w.heap.size w w')
              (first | exact ⟨q5, VT, VD, V0, hB.drew⟩ | (go_split_ands; (repeat' apply And.intro) <;> first | (with_reducible assumption) | (with_reducible exact cell_pure hbc (cell_lt (by assumption)) (by assumption)) | (with_reducible exact Voice.pure (by assumption) hbc) | (with_reducible exact below_pure (by assumption) hbc)))
              (first | (go_at_call 26; (with_reducible refine (HAH.out _ _ _ ?_).mono ?_); (focus (first | (with_reducible exact VT) | (with_reducible exact VT.drew) | (go_split_ands; with_reducible assumption))); rintro e w2 ⟨rfl, hbc⟩) | (go_at_call 26; (with_reducible refine (HDH.out _ _ _ ?_).mono ?_); (focus (first | (with_reducible exact VD) | (with_reducible exact VD.drew) | (go_split_ands; with_reducible assumption))); rintro e w2 ⟨rfl, hbc⟩))
            all_goals
              go_split_ands
              go_wp2_with fail
              go_meet
              exact ⟨rfl, by assumption, by assumption⟩
          · have HV1 := Lib.hid V0
            have HB1 := Lib.hid hB
            clear V0 VT VD hB
            go_quiet (fail)
            go_wp2_with fail
            go_meet
            exact ⟨rfl, HV1.out, below_drewN HB1.out _⟩
        case rest =>
          clear V0 VT VD q5 hB hsz hxk
          obtain ⟨rfl, V0, hB⟩ := hcut
          have HV1 := Lib.hid V0
          have HB1 := Lib.hid hB
          clear V0 hB
          go_wp2_with fail
          go_roundw
          case rel => exact ⟨j + 1 + 1, by omega, by omega, by go_num, HV1.out, HB1.out⟩
          case measure => simp [intOf]; omega
      · have hTN : (N : Int) ≤ TN := by omega
        have hnk : ¬ (k : Int) < (N : Int) := by omega
        go_wp2
        go_ret
        exact ⟨by first | (simp; done) | (simp; omega), hB⟩
end Go.Proofs.Ytmkkhbplfedpoaa

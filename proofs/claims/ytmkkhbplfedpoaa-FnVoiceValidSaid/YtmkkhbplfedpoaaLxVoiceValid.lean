/- The walk of the law FnVoiceValid: it returns true, and nothing that was there turns. No condition. -/
import Derived.Test.YtmkkhbplfedpoaaDu
import Derived.Test.YtmkkhbplfedpoaaMt
import Derived.Test.YtmkkhbplfedpoaaSv
import Derived.Test.YtmkkhbplfedpoaaAl
namespace Go.Proofs.Ytmkkhbplfedpoaa
open Go.RowKit

set_option maxHeartbeats 4000000 in
set_option maxRecDepth 100000 in
theorem fnVoiceValid_walk (a : Option Addr) (len cap : Nat) (w : World) (hC : Code' w a len cap) :
    Calls Try.prog 11 #[.slice a len cap] w (Gives (.bool true) w) := by
  by_cases hlen : 1048576 < len
  · have hcap : len ≤ 9223372036854775807 := by have h1 := hC.2.1; have h2 := hC.2.2; unfold maxLen at h2; omega
    go_enter Try.func11, Try.ntmps11
    go_wp2
    go_ret
    exact ⟨rfl, by go_grown⟩
  have hlen' : len ≤ 1048576 := by omega
  have HC := Lib.hid hC
  clear hC
  go_enter Try.func11, Try.ntmps11
  go_wp2_with fail
  refine (drawVoiceValid_any _ _ _ _ HC.out hlen').mono ?_
  rintro e c0 ⟨b, cb, xs, rfl, hB, V0, hL, l1, l2⟩
  clear HC
  unfold maxLen at l2
  obtain ⟨N, hN⟩ : ∃ N, xs.length = N := ⟨_, rfl⟩
  rw [hN] at hL l1 ⊢
  have HV := fun W (hV : Voice W b xs) => voiceValid_any b N cb xs W hN hV (by omega)
  have HW := fun W (hV : Voice W b xs) => specVoiceValid_any b N cb xs W hN hV (by omega)
  cases hv : vvB xs
  · rw [hv] at HV HW
    have H1 := Lib.hid HV
    have H2 := Lib.hid HW
    clear HV HW hv hN
    go_wp2_with fail
    refine (H1.out _ V0).mono ?_
    rintro e c1 ⟨rfl, hb⟩
    replace V0 := V0.pure hb
    replace hB := below_pure hB hb
    clear hb
    go_wp2_with fail
    refine (H2.out _ V0).mono ?_
    rintro e c2 ⟨rfl, hb⟩
    replace V0 := V0.pure hb
    replace hB := below_pure hB hb
    clear hb
    go_wp2_with fail
    refine (alive_any _).mono ?_
    rintro e c3 ⟨rfl, hb⟩
    replace V0 := V0.pure hb
    replace hB := below_pure hB hb
    clear hb
    go_wp2
    go_ret
    exact ⟨rfl, hB⟩
  · rw [hv] at HV HW
    have H1 := Lib.hid HV
    have H2 := Lib.hid HW
    clear HV HW
    cases N with
    | zero =>
      clear hv hN
      go_wp2_with fail
      refine (H1.out _ V0).mono ?_
      rintro e c1 ⟨rfl, hb⟩
      replace V0 := V0.pure hb
      replace hB := below_pure hB hb
      clear hb
      go_wp2_with fail
      refine (H2.out _ V0).mono ?_
      rintro e c2 ⟨rfl, hb⟩
      replace V0 := V0.pure hb
      replace hB := below_pure hB hb
      clear hb
      go_wp2_with fail
      refine (alive_any _).mono ?_
      rintro e c3 ⟨rfl, hb⟩
      replace V0 := V0.pure hb
      replace hB := below_pure hB hb
      clear hb
      go_wp2
      go_ret
      exact ⟨rfl, hB⟩
    | succ l =>
      obtain ⟨m, hm⟩ := nth (xs := xs) (k := l) (by omega)
      have hmd := vL_fin (vv_iff.1 hv).2 hm (by omega)
      obtain ⟨r, s, x, o, t, d⟩ := m
      obtain rfl : d = false := hmd
      have HT := fun c bb W (hV : Voice W bb (xs.take l)) => voiceValid_any bb l c (xs.take l) W (by rw [List.length_take]; omega) hV (by omega)
      have hcl : (l : Int) < (l : Int) + 1 := by omega
      have hc0 : (0 : Int) ≤ (l : Int) := by omega
      have hcc : (l : Int) ≤ (cb : Int) := by omega
      have HM := Lib.hid hm
      have HN := Lib.hid hN
      clear hm
      rcases Nat.eq_zero_or_pos l with h0 | h0
      · subst h0
        have e0 : vvB (xs.take 0) = true := rfl
        rw [e0] at HT
        have H3 := Lib.hid HT
        clear HT e0 hv hN
        go_wp2_with fail
        refine (H1.out _ V0).mono ?_
        rintro e c1 ⟨rfl, hb⟩
        replace V0 := V0.pure hb
        replace hB := below_pure hB hb
        clear hb
        go_wp2_with fail
        refine (H2.out _ V0).mono ?_
        rintro e c2 ⟨rfl, hb⟩
        replace V0 := V0.pure hb
        replace hB := below_pure hB hb
        clear hb
        obtain ⟨g, off, rfl, hc⟩ := id V0 (by have := HN.out; omega)
        rw [HN.out] at hc
        obtain ⟨q0, q1, q2, q3, q4, q5⟩ := at6 hc (show 0 < 0 + 1 by omega) HM.out
        have VT := Lib.hid (V0.take (k := 0) (by have := HN.out; omega))
        clear hc V0
        go_wp2_with fail
        refine (H3.out _ _ _ VT.out).mono ?_
        rintro e cx ⟨rfl, hb⟩
        replace hB := below_pure hB hb
        clear hb
        clear q0 q1 q2 q3 q4 q5
        go_wp2
        go_ret
        exact ⟨rfl, hB⟩
      · obtain ⟨j, rfl⟩ : ∃ j, l = j + 1 := ⟨l - 1, by omega⟩
        obtain ⟨z, hz⟩ := nth (xs := xs) (k := j) (by omega)
        have hw1 : IntKind.i64.wrap (((j + 1 : Nat) : Int) - 1) = (j : Int) := by rw [show ((j + 1 : Nat) : Int) - 1 = (j : Int) by omega]; exact IntWalk.i64_in _ (by omega)
        have hj2 : (j : Int) < (j : Int) + 1 + 1 := by omega
        obtain ⟨r', s', x', o', t', d'⟩ := z
        have HZ := Lib.hid hz
        cases d'
        · have e0 := vv_take_t hv (k := j + 1) (.inr ⟨_, hz, rfl⟩)
          rw [e0] at HT
          have H3 := Lib.hid HT
          clear HT e0 hv hN hz
          go_wp2_with fail
          refine (H1.out _ V0).mono ?_
          rintro e c1 ⟨rfl, hb⟩
          replace V0 := V0.pure hb
          replace hB := below_pure hB hb
          clear hb
          go_wp2_with fail
          refine (H2.out _ V0).mono ?_
          rintro e c2 ⟨rfl, hb⟩
          replace V0 := V0.pure hb
          replace hB := below_pure hB hb
          clear hb
          obtain ⟨g, off, rfl, hc⟩ := id V0 (by have := HN.out; omega)
          rw [HN.out] at hc
          obtain ⟨q0, q1, q2, q3, q4, q5⟩ := at6 hc (show j + 1 < j + 1 + 1 by omega) HM.out
          obtain ⟨p0, p1, p2, p3, p4, p5⟩ := at6 hc (show j < j + 1 + 1 by omega) HZ.out
          have VT := Lib.hid (V0.take (k := j + 1) (by have := HN.out; omega))
          clear hc V0
          go_wp2_with fail
          refine (H3.out _ _ _ VT.out).mono ?_
          rintro e cx ⟨rfl, hb⟩
          replace p5 := (hb.cell (p := ⟨g, off + j * 6 + 5, none⟩) (cell_lt p5)).trans p5
          clear p0 p1 p2 p3 p4 VT
          have plt := cell_lt p5
          replace hB := below_pure hB hb
          clear hb
          clear q0 q1 q2 q3 q4 q5
          go_wp2
          go_ret
          exact ⟨rfl, hB⟩
        · have e0 := vv_take_f hv (k := j + 1) (by omega) hz rfl
          rw [e0] at HT
          have H3 := Lib.hid HT
          clear HT e0 hv hN hz
          go_wp2_with fail
          refine (H1.out _ V0).mono ?_
          rintro e c1 ⟨rfl, hb⟩
          replace V0 := V0.pure hb
          replace hB := below_pure hB hb
          clear hb
          go_wp2_with fail
          refine (H2.out _ V0).mono ?_
          rintro e c2 ⟨rfl, hb⟩
          replace V0 := V0.pure hb
          replace hB := below_pure hB hb
          clear hb
          obtain ⟨g, off, rfl, hc⟩ := id V0 (by have := HN.out; omega)
          rw [HN.out] at hc
          obtain ⟨q0, q1, q2, q3, q4, q5⟩ := at6 hc (show j + 1 < j + 1 + 1 by omega) HM.out
          obtain ⟨p0, p1, p2, p3, p4, p5⟩ := at6 hc (show j < j + 1 + 1 by omega) HZ.out
          have VT := Lib.hid (V0.take (k := j + 1) (by have := HN.out; omega))
          clear hc V0
          go_wp2_with fail
          refine (H3.out _ _ _ VT.out).mono ?_
          rintro e cx ⟨rfl, hb⟩
          replace p5 := (hb.cell (p := ⟨g, off + j * 6 + 5, none⟩) (cell_lt p5)).trans p5
          clear p0 p1 p2 p3 p4 VT
          have plt := cell_lt p5
          replace hB := below_pure hB hb
          clear hb
          clear q0 q1 q2 q3 q4 q5
          go_wp2
          go_ret
          exact ⟨rfl, hB⟩
end Go.Proofs.Ytmkkhbplfedpoaa

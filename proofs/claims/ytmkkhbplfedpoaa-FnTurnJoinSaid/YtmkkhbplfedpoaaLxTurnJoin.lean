/- The walk of the law FnTurnJoin: it returns true, and nothing that was there turns. No condition. -/
import Derived.Test.YtmkkhbplfedpoaaDu
import Derived.Test.YtmkkhbplfedpoaaMt
import Derived.Test.YtmkkhbplfedpoaaJt
import Derived.Test.YtmkkhbplfedpoaaSv
import Derived.Test.YtmkkhbplfedpoaaAl
namespace Go.Proofs.Ytmkkhbplfedpoaa
open Go.RowKit

theorem turn_join (xs : List (Bool × Int × Int × Int × Int × Bool)) : vtV (jnV (trV xs)) = vtV (jnV xs) ∧ (anyTied (jnV xs) = false → (jnV (trV xs)).length = (jnV xs).length) := by
  cases hv : vvB xs
  · rw [trV_f hv, jnV_f hv]
    exact ⟨rfl, fun _ => rfl⟩
  · have ht := turn_vv hv
    rw [trV_t hv, jnV_t hv, jnV_t ht]
    refine ⟨?_, turn_join_len hv⟩
    rw [vtV_t (joinF_vv ht), vtV_t (joinF_vv hv)]
    have e1 := joinF_sum (turnL xs)
    have e2 := joinF_sum xs
    have e3 := turn_sum xs
    unfold sumT at e1 e2 e3
    omega
def anyK (B : List (Bool × Int × Int × Int × Int × Bool)) (k : Nat) : Bool := (B.take k).any nD
theorem anyK_zero (B : List (Bool × Int × Int × Int × Int × Bool)) : anyK B 0 = false := by simp [anyK]
theorem anyK_succ {B : List (Bool × Int × Int × Int × Int × Bool)} {k : Nat} {r : Bool} {s a o t : Int} {d : Bool} (h : B[k]? = some (r, s, a, o, t, d)) : anyK B (k + 1) = (anyK B k || d) := by
  unfold anyK
  rw [List.take_add_one, h, List.any_append]
  simp [nD]
theorem anyK_all (B : List (Bool × Int × Int × Int × Int × Bool)) : anyK B B.length = anyTied B := by
  unfold anyK anyTied
  rw [List.take_length]

set_option maxHeartbeats 4000000 in
set_option maxRecDepth 100000 in
theorem fnTurnJoin_walk (a : Option Addr) (len cap : Nat) (w : World) (hC : Code' w a len cap) :
    Calls Try.prog 16 #[.slice a len cap] w (Gives (.bool true) w) := by
  by_cases hlen : 1048576 < len
  · have hcap : len ≤ 9223372036854775807 := by have h1 := hC.2.1; have h2 := hC.2.2; unfold maxLen at h2; omega
    go_enter Try.func16, Try.ntmps16
    go_wp2
    go_ret
    exact ⟨rfl, by go_grown⟩
  have hlen' : len ≤ 1048576 := by omega
  have HC := Lib.hid hC
  clear hC
  go_enter Try.func16, Try.ntmps16
  go_wp2_with fail
  refine (drawTurnVoice_any _ _ _ _ HC.out hlen').mono ?_
  rintro e c0 ⟨b, cb, xs, rfl, hB, V0, hL, l1, l2⟩
  clear HC
  unfold maxLen at l2
  obtain ⟨T, hT⟩ : ∃ T, trV xs = T := ⟨_, rfl⟩
  have hTl : T.length ≤ 10000000 := by have h1 := trV_len xs; rw [hT] at h1; omega
  obtain ⟨A, hA⟩ : ∃ A, jnV T = A := ⟨_, rfl⟩
  have hAl : A.length ≤ 10000000 := by have h1 := jnV_len T; rw [hA] at h1; omega
  obtain ⟨B, hB'⟩ : ∃ B, jnV xs = B := ⟨_, rfl⟩
  have hBl : B.length ≤ 10000000 := by have h1 := jnV_len xs; rw [hB'] at h1; omega
  have hTJ := turn_join xs
  rw [hT, hA, hB'] at hTJ
  have HG := fun W (hV : Voice W b xs) => turnVoice_any b xs.length cb xs W rfl hV (by omega)
  have HW := fun W (hV : Voice W b xs) => specTurnVoice_any b xs.length cb xs W rfl hV (by omega)
  have HJ := fun W (hV : Voice W b xs) => joinTies_any b xs.length cb xs W rfl hV (by omega)
  have HK := fun c bb W (hV : Voice W bb T) => joinTies_any bb T.length c T W rfl hV hTl
  have HT1 := fun c bb W (hV : Voice W bb A) => voiceTicksV_any bb A.length c A W rfl hV hAl
  have HT2 := fun c bb W (hV : Voice W bb B) => voiceTicksV_any bb B.length c B W rfl hV hBl
  rw [hT] at HG HW
  rw [hA] at HK
  rw [hB'] at HJ
  rw [hTJ.1] at HT1
  have hlen2 := Lib.hid hTJ.2
  generalize vtV B = VB at *
  have H1 := Lib.hid HG
  have H2 := Lib.hid HW
  have H3 := Lib.hid HJ
  have H4 := Lib.hid HK
  have H5 := Lib.hid HT1
  have H6 := Lib.hid HT2
  clear HG HW HJ HK HT1 HT2 hT hA hB' hTJ
  go_wp2_with fail
  refine (H1.out _ V0).mono ?_
  rintro e c1 ⟨bX0, kX0, rfl, hb, OX0, lX0, mX0⟩
  have X0 : Voice c1 bX0 T := OX0.sees
  replace V0 := V0.pure hb
  replace hB := below_pure hB hb
  clear hb
  unfold maxLen at mX0
  clear OX0
  go_wp2_with fail
  refine (H2.out _ V0).mono ?_
  rintro e c2 ⟨bY0, kY0, rfl, hb, OY0, lY0, mY0⟩
  have Y0 : Voice c2 bY0 T := OY0.sees
  replace V0 := V0.pure hb
  replace X0 := X0.pure hb
  replace hB := below_pure hB hb
  clear hb
  unfold maxLen at mY0
  clear OY0
  go_wp2_with fail
  refine (sameVoice_any _ _ _ _ _ T _ rfl X0 Y0 hTl).mono ?_
  rintro e c3 ⟨rfl, hb⟩
  replace V0 := V0.pure hb
  replace X0 := X0.pure hb
  replace Y0 := Y0.pure hb
  replace hB := below_pure hB hb
  clear hb
  clear Y0
  go_wp2_with fail
  refine (H4.out _ _ _ X0).mono ?_
  rintro e c4 ⟨bA0, kA0, rfl, hb, OA0, lA0, mA0⟩
  have A0 : Voice c4 bA0 A := OA0.sees
  replace V0 := V0.pure hb
  replace X0 := X0.pure hb
  replace hB := below_pure hB hb
  clear hb
  unfold maxLen at mA0
  clear OA0
  clear X0
  go_wp2_with fail
  refine (H3.out _ V0).mono ?_
  rintro e c5 ⟨bB0, kB0, rfl, hb, OB0, lB0, mB0⟩
  have B0 : Voice c5 bB0 B := OB0.sees
  replace V0 := V0.pure hb
  replace A0 := A0.pure hb
  replace hB := below_pure hB hb
  clear hb
  unfold maxLen at mB0
  clear OB0
  clear V0
  have HB := Lib.hid hB
  have HA0 := Lib.hid A0
  have HB0 := Lib.hid B0
  clear hB A0 B0
  go_wp2_with fail
  go_loop [7, 8] (fun lv kv => ∃ k : Nat, k ≤ B.length ∧ kv = .int .i64 (k : Int) ∧ lv = .bool (anyK B k)) (fun _ kv => B.length - (intOf kv).toNat)
  case atStart => exact ⟨0, Nat.zero_le _, rfl, by rw [anyK_zero]⟩
  case round =>
    obtain ⟨k, hk, rfl, rfl⟩ := hrel
    by_cases hlt : k < B.length
    · obtain ⟨⟨r, s, x, o, t, d⟩, hxk⟩ := nth (xs := B) (k := k) hlt
      obtain ⟨g, off, rfl, hc⟩ := HB0.out (by omega)
      obtain ⟨q0, q1, q2, q3, q4, q5⟩ := at6 hc hlt hxk
      have HS := Lib.hid (anyK_succ hxk)
      clear hc hxk
      have hki : (k : Int) < (B.length : Int) := by omega
      cases hak : anyK B k
      · rw [hak] at HS
        clear hak
        go_wp2_with fail
        go_round
        case rel => exact ⟨k + 1, by omega, by go_num, by rw [HS.out]; rfl⟩
        case measure => simp [intOf]; omega
      · rw [hak] at HS
        clear hak
        go_wp2_with fail
        go_round
        case rel => exact ⟨k + 1, by omega, by go_num, by rw [HS.out]; rfl⟩
        case measure => simp [intOf]; omega
    · obtain rfl : k = B.length := by omega
      rw [anyK_all]
      have hB := HB.out
      have A0 := HA0.out
      have B0 := HB0.out
      clear HA0 HB0 HB
      cases hat : anyTied B
      · have hle := hlen2.out hat
        have hleB : ((A.length : Int) == (B.length : Int)) = true := by rw [hle]; simp
        have HLE := Lib.hid hle
        clear hle hat
        go_wp2_with fail
        refine (H5.out _ _ _ A0).mono ?_
        rintro e c6 ⟨rfl, hb⟩
        replace A0 := A0.pure hb
        replace B0 := B0.pure hb
        replace hB := below_pure hB hb
        clear hb
        go_wp2_with fail
        refine (H6.out _ _ _ B0).mono ?_
        rintro e c7 ⟨rfl, hb⟩
        replace A0 := A0.pure hb
        replace B0 := B0.pure hb
        replace hB := below_pure hB hb
        clear hb
        go_wp2_with fail
        refine (alive_any _).mono ?_
        rintro e c8 ⟨rfl, hb⟩
        replace A0 := A0.pure hb
        replace B0 := B0.pure hb
        replace hB := below_pure hB hb
        clear hb
        go_wp2
        go_ret
        exact ⟨rfl, hB⟩
      · clear hat
        go_wp2_with fail
        refine (H5.out _ _ _ A0).mono ?_
        rintro e c6 ⟨rfl, hb⟩
        replace A0 := A0.pure hb
        replace B0 := B0.pure hb
        replace hB := below_pure hB hb
        clear hb
        go_wp2_with fail
        refine (H6.out _ _ _ B0).mono ?_
        rintro e c7 ⟨rfl, hb⟩
        replace A0 := A0.pure hb
        replace B0 := B0.pure hb
        replace hB := below_pure hB hb
        clear hb
        go_wp2_with fail
        refine (alive_any _).mono ?_
        rintro e c8 ⟨rfl, hb⟩
        replace A0 := A0.pure hb
        replace B0 := B0.pure hb
        replace hB := below_pure hB hb
        clear hb
        go_wp2
        go_ret
        exact ⟨rfl, hB⟩
end Go.Proofs.Ytmkkhbplfedpoaa

/- The walk of the law FnTiedFew: it returns true, and nothing that was there turns. No condition. -/
import Derived.Test.YtgbnaimkpnoeoaaDt
import Derived.Test.YtgbnaimkpnoeoaaLxExactTiedTicks
import Derived.Test.YtgbnaimkpnoeoaaAl
namespace Go.Proofs.Ytgbnaimkpnoeoaa
open Go.RowKit

theorem ttV_cases (n : Int) : ttV n = [] ∨ (1 ≤ n ∧ n ≤ 768 ∧ Fw n.toNat ≤ 768 ∧ ttV n = TT n.toNat ∧ 0 < (ttV n).length) := by
  by_cases h : 1 ≤ n ∧ n ≤ 768 ∧ Fw n.toNat ≤ 768
  · right
    refine ⟨h.1, h.2.1, h.2.2, ttV_t h, ?_⟩
    rw [ttV_t h]
    have h1 := TT_len n.toNat h.2.2
    have h2 := (Fw_ge n.toNat).2 (by omega)
    omega
  · exact .inl (ttV_f h)
theorem few (n : Int) (h : 0 < (ttV n).length) (hn : n + 192 ≤ 768) : 1 ≤ (ttV (n + 192)).length ∧ (ttV (n + 192)).length ≤ (ttV n).length + 1 := by
  rcases ttV_cases n with e | ⟨h1, h2, h3, h4, h5⟩
  · rw [e] at h
    exact absurd h (Nat.lt_irrefl 0)
  · have e : (n + 192).toNat = n.toNat + 192 := by omega
    have w := Fw_whole (n := n.toNat)
    have few := Fw_few _ h3
    have g := (Fw_ge (n.toNat + 192)).2 (by omega)
    have t1 := TT_len n.toNat h3
    have h6 : Fw (n + 192).toNat ≤ 768 := by rw [e]; omega
    have t2 := TT_len (n + 192).toNat h6
    rw [ttV_t ⟨by omega, by omega, h6⟩, h4]
    rw [e] at t2
    rw [e]
    omega

set_option maxHeartbeats 4000000 in
set_option maxRecDepth 100000 in
theorem fnTiedFew_walk (a : Option Addr) (len cap : Nat) (w : World) (hC : Code' w a len cap) :
    Calls Try.prog 12 #[.slice a len cap] w (Gives (.bool true) w) := by
  by_cases hlen : 1048576 < len
  · have hcap : len ≤ 9223372036854775807 := by have h1 := hC.2.1; have h2 := hC.2.2; unfold maxLen at h2; omega
    go_enter Try.func12, Try.ntmps12
    go_wp2
    go_ret
    exact ⟨rfl, by go_grown⟩
  have hlen' : len ≤ 1048576 := by omega
  have HC := Lib.hid hC
  clear hC
  go_enter Try.func12, Try.ntmps12
  go_wp2_with fail
  refine (drawTiedTicks_any _ _ _ _ HC.out hlen').mono ?_
  rintro e c0 ⟨n, rfl, hnb, hB⟩
  clear HC
  obtain ⟨T, hT⟩ : ∃ T, ttV n = T := ⟨_, rfl⟩
  have hTl : T.length ≤ 10000000 := by rw [← hT]; exact ttV_len n
  have HG := fun W => tiedTicks_any n W
  have HW := fun W => specTiedTicks_any n W
  have HF := few n
  rw [hT] at HG HW HF
  obtain ⟨T2, hT2⟩ : ∃ T2, ttV (n + 192) = T2 := ⟨_, rfl⟩
  have HG2 := fun W => tiedTicks_any (n + 192) W
  rw [hT2] at HG2 HF
  have H1 := Lib.hid HG
  have H2 := Lib.hid HW
  have H3 := Lib.hid HG2
  have HFH := Lib.hid HF
  clear HG HW HG2 HF hT hT2
  go_wp2_with fail
  refine (H1.out _).mono ?_
  rintro e c1 ⟨bX0, kX0, rfl, hb, OX0, lX0, mX0⟩
  have X0 : Ints c1 bX0 T := OX0.sees
  replace hB := below_pure hB hb
  clear hb
  unfold maxLen at mX0
  clear OX0
  go_wp2_with fail
  refine (H2.out _).mono ?_
  rintro e c2 ⟨bY0, kY0, rfl, hb, OY0, lY0, mY0⟩
  have Y0 : Ints c2 bY0 T := OY0.sees
  replace X0 := X0.pure hb
  replace hB := below_pure hB hb
  clear hb
  unfold maxLen at mY0
  clear OY0
  go_wp2_with fail
  refine (sameInts_any _ _ _ _ _ T _ rfl X0 Y0 hTl).mono ?_
  rintro e c3 ⟨rfl, hb⟩
  replace X0 := X0.pure hb
  replace Y0 := Y0.pure hb
  replace hB := below_pure hB hb
  clear hb
  clear Y0
  clear X0
  by_cases h0 : T.length = 0
  · obtain rfl : T = [] := List.length_eq_zero_iff.1 h0
    clear h0
    go_wp2_with fail
    refine (alive_any _).mono ?_
    rintro e c4 ⟨rfl, hb⟩
    replace hB := below_pure hB hb
    clear hb
    go_wp2
    go_ret
    exact ⟨rfl, hB⟩
  have h0b : ((T.length : Int) == 0) = false := by simp; intro h; exact h0 (by rw [h]; rfl)
  by_cases h1 : n + 192 ≤ 768
  rotate_left
  · have h1b : 768 < n + 192 := by omega
    clear h1
    go_wp2_with fail
    refine (alive_any _).mono ?_
    rintro e c4 ⟨rfl, hb⟩
    replace hB := below_pure hB hb
    clear hb
    go_wp2
    go_ret
    exact ⟨rfl, hB⟩
  obtain ⟨f1, f2⟩ := HFH.out (by omega) h1
  have f3 : (1 : Int) ≤ (T2.length : Int) := by omega
  have f4 : (T2.length : Int) ≤ (T.length : Int) + 1 := by omega
  have hw : IntKind.i64.wrap (n + 192) = n + 192 := IntWalk.i64_in _ (by omega)
  clear f1 f2 h0
  go_wp2_with fail
  refine (H3.out _).mono ?_
  rintro e c4 ⟨bZ0, kZ0, rfl, hb, OZ0, lZ0, mZ0⟩
  have Z0 : Ints c4 bZ0 T2 := OZ0.sees
  replace hB := below_pure hB hb
  clear hb
  unfold maxLen at mZ0
  clear OZ0
  clear Z0
  go_wp2
  go_ret
  exact ⟨rfl, hB⟩
end Go.Proofs.Ytgbnaimkpnoeoaa

/- The walk of the law FnKeyAlter: it returns true, and nothing that was there turns. No condition. -/
import Derived.Test.YtojkbeffhjcaiaaDk
import Derived.Test.YtojkbeffhjcaiaaAl
import Derived.Test.YtojkbeffhjcaiaaKl
namespace Go.Proofs.Ytojkbeffhjcaiaa
open Go.RowKit

set_option maxHeartbeats 2000000 in
set_option maxRecDepth 100000 in
theorem fnKeyAlter_walk (a : Option Addr) (len cap : Nat) (w : World) (hC : Code' w a len cap) :
    Calls Try.prog 9 #[.slice a len cap] w (Gives (.bool true) w) := by
  by_cases hlen : 1048576 < len
  · have hcap : len ≤ 9223372036854775807 := by have h1 := hC.2.1; have h2 := hC.2.2; unfold maxLen at h2; omega
    go_enter Try.func9, Try.ntmps9
    go_wp2
    go_ret
    exact ⟨rfl, by go_grown⟩
  have hlen' : len ≤ 1048576 := by omega
  have HC := Lib.hid hC
  clear hC
  go_enter Try.func9, Try.ntmps9
  go_wp2_with fail
  refine (drawKeyAlter_any _ _ _ _ HC.out hlen').mono ?_
  rintro e c1 ⟨f, g, rfl, ⟨f0, f1, g0, g1⟩, hb⟩
  have hB : Below w.heap.size w c1 := by have h := below_pure (w := w) (by go_grown) hb; exact h
  have hsz := hB.size
  clear hb HC
  cases hk : inR f (-7) 7
  · have ev := altV_f (f := f) (s := g) (by unfold keyB; rw [hk]; rfl)
    have hk' := inR_f hk
    clear hk
    obtain rfl | rfl : f = -8 ∨ f = 8 := by omega
    all_goals
      go_wp2_with fail
      go_call (keyAlter_any _ _ _) as e c2 ⟨rfl, hb⟩
      replace hB := below_pure (w := w) (by go_grown) hb
      clear hb; replace hsz := hB.size
      go_wp2_with fail
      go_call (specKeyAlter_any _ _ _) as e c3 ⟨rfl, hb⟩
      replace hB := below_pure (w := w) (by go_grown) hb
      clear hb; replace hsz := hB.size
      go_wp2_with fail
      go_call (alive_any _) as e c4 ⟨rfl, hb⟩
      replace hB := below_pure (w := w) (by go_grown) hb
      clear hb; replace hsz := hB.size
      go_wp2
      go_ret
      exact ⟨rfl, by go_grown⟩
  · obtain ⟨q0, q1⟩ := inR_t hk
    obtain ⟨n0, n1⟩ := altV_bd f g
    obtain ⟨m0, m1⟩ := altV_sgn f g f0 f1
    go_wp2_with fail
    go_call (keyAlter_any _ _ _) as e c2 ⟨rfl, hb⟩
    replace hB := below_pure (w := w) (by go_grown) hb
    clear hb; replace hsz := hB.size
    go_wp2_with fail
    go_call (specKeyAlter_any _ _ _) as e c3 ⟨rfl, hb⟩
    replace hB := below_pure (w := w) (by go_grown) hb
    clear hb; replace hsz := hB.size
    go_wp2_with fail
    go_loopw [6, 7] (fun sv kv wr => ∃ k : Nat, k ≤ 7 ∧ kv = .int .i64 k ∧ sv = .int .i64 (altS f k) ∧ Below w.heap.size w wr) (fun _ kv _ => 7 - (intOf kv).toNat)
    case atStart => exact ⟨0, by omega, rfl, rfl, hB⟩
    case round =>
      clear hB hsz
      obtain ⟨k, hk7, rfl, rfl, hB⟩ := hrel
      have hsz := hB.size
      by_cases hlt : k < 7
      · obtain ⟨t0, t1⟩ := altS_bd f k
        obtain ⟨v0, v1⟩ := altV_bd f k
        go_wp2_with fail
        go_call (keyAlter_any _ _ _) as e w2 ⟨rfl, hb⟩
        replace hB := below_pure hB hb
        clear hb
        go_wp2_with fail
        go_roundw
        case rel => exact ⟨k + 1, by omega, by go_num, rfl, hB⟩
        case measure => simp [intOf]; omega
      · obtain rfl : k = 7 := by omega
        have es := altS_7 f q0 q1
        go_wp2
        go_ret
        exact ⟨rfl, by go_grown⟩
end Go.Proofs.Ytojkbeffhjcaiaa

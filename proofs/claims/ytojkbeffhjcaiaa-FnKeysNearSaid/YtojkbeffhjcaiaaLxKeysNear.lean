/- The walk of the law FnKeysNear: it returns true, and nothing that was there turns. No condition. -/
import Derived.Test.YtojkbeffhjcaiaaDk
import Derived.Test.YtojkbeffhjcaiaaAl
import Derived.Test.YtojkbeffhjcaiaaKl
namespace Go.Proofs.Ytojkbeffhjcaiaa
open Go.RowKit

set_option maxHeartbeats 2000000 in
set_option maxRecDepth 100000 in
theorem fnKeysNear_walk (a : Option Addr) (len cap : Nat) (w : World) (hC : Code' w a len cap) :
    Calls Try.prog 15 #[.slice a len cap] w (Gives (.bool true) w) := by
  by_cases hlen : 1048576 < len
  · have hcap : len ≤ 9223372036854775807 := by have h1 := hC.2.1; have h2 := hC.2.2; unfold maxLen at h2; omega
    go_enter Try.func15, Try.ntmps15
    go_wp2
    go_ret
    exact ⟨rfl, by go_grown⟩
  have hlen' : len ≤ 1048576 := by omega
  have HC := Lib.hid hC
  clear hC
  go_enter Try.func15, Try.ntmps15
  go_wp2_with fail
  refine (drawKeyAlter_any _ _ _ _ HC.out hlen').mono ?_
  rintro e c1 ⟨f, g, rfl, ⟨f0, f1, g0, g1⟩, hb⟩
  have hB : Below w.heap.size w c1 := by have h := below_pure (w := w) (by go_grown) hb; exact h
  have hsz := hB.size
  clear hb HC
  by_cases hlo : f < -7
  · obtain rfl : f = -8 := by omega
    go_wp2_with fail
    go_call (keyAlter_any _ _ _) as e c2 ⟨rfl, hb⟩
    replace hB := below_pure (w := w) (by go_grown) hb
    clear hb; replace hsz := hB.size
    go_wp2_with fail
    go_call (specKeyAlter_any _ _ _) as e c3 ⟨rfl, hb⟩
    replace hB := below_pure (w := w) (by go_grown) hb
    clear hb; replace hsz := hB.size
    go_wp2_with fail
    go_call (alive_any _) as e c4 ⟨rfl, hb⟩
    replace hB := below_pure (w := w) (by go_grown) hb
    clear hb; replace hsz := hB.size
    go_wp2
    go_ret
    exact ⟨rfl, by go_grown⟩
  by_cases hhi : 6 < f
  · skip
    go_wp2_with fail
    go_call (keyAlter_any _ _ _) as e c2 ⟨rfl, hb⟩
    replace hB := below_pure (w := w) (by go_grown) hb
    clear hb; replace hsz := hB.size
    go_wp2_with fail
    go_call (specKeyAlter_any _ _ _) as e c3 ⟨rfl, hb⟩
    replace hB := below_pure (w := w) (by go_grown) hb
    clear hb; replace hsz := hB.size
    go_wp2_with fail
    go_call (alive_any _) as e c4 ⟨rfl, hb⟩
    replace hB := below_pure (w := w) (by go_grown) hb
    clear hb; replace hsz := hB.size
    go_wp2
    go_ret
    exact ⟨rfl, by go_grown⟩
  have q0 : -7 ≤ f := by omega
  have q1 : f ≤ 6 := by omega
  go_wp2_with fail
  go_call (keyAlter_any _ _ _) as e c2 ⟨rfl, hb⟩
  replace hB := below_pure (w := w) (by go_grown) hb
  clear hb; replace hsz := hB.size
  go_wp2_with fail
  go_call (specKeyAlter_any _ _ _) as e c3 ⟨rfl, hb⟩
  replace hB := below_pure (w := w) (by go_grown) hb
  clear hb; replace hsz := hB.size
  go_wp2_with fail
  go_loopw [5, 6] (fun sv kv wr => ∃ k : Nat, k ≤ 7 ∧ kv = .int .i64 k ∧ sv = .int .i64 (altS (f + 1) k - altS f k) ∧ Below w.heap.size w wr) (fun _ kv _ => 7 - (intOf kv).toNat)
  case atStart => exact ⟨0, by omega, rfl, rfl, hB⟩
  case round =>
    clear hB hsz
    obtain ⟨k, hk7, rfl, rfl, hB⟩ := hrel
    have hsz := hB.size
    by_cases hlt : k < 7
    · obtain ⟨t0, t1⟩ := altS_bd f k
      obtain ⟨t2, t3⟩ := altS_bd (f + 1) k
      obtain ⟨v0, v1⟩ := altV_bd f k
      obtain ⟨v2, v3⟩ := altV_bd (f + 1) k
      obtain ⟨d0, d1⟩ := altV_near f k q0 q1 (by omega) (by omega)
      have e1 := Lib.hid (altS_succ f k)
      have e2 := Lib.hid (altS_succ (f + 1) k)
      go_wp2_with fail
      go_call (keyAlter_any _ _ _) as e w2 ⟨rfl, hb⟩
      replace hB := below_pure hB hb
      clear hb
      go_wp2_with fail
      go_call (keyAlter_any _ _ _) as e w3 ⟨rfl, hb⟩
      replace hB := below_pure hB hb
      clear hb
      go_wp2_with fail
      go_roundw
      case rel => exact ⟨k + 1, by omega, by go_num, by have g1 := e1.out; have g2 := e2.out; congr 1; omega, hB⟩
      case measure => simp [intOf]; omega
    · obtain rfl : k = 7 := by omega
      have es : altS (f + 1) 7 - altS f 7 = 1 := by rw [altS_7 f (by omega) (by omega), altS_7 (f + 1) (by omega) (by omega)]; omega
      go_wp2
      go_ret
      exact ⟨rfl, by go_grown⟩
end Go.Proofs.Ytojkbeffhjcaiaa

/- The reference's reader of texts of pitches returns what the program's does, at every string. Condition: the string is no longer than any machine allows. -/
import Derived.Test.YtgogpjlemaajeaaRt
namespace Go.Proofs.Ytgogpjlemaajeaa
open Go.RowKit

set_option maxHeartbeats 4000000 in
set_option maxRecDepth 100000 in
theorem specReadPitch_nil (w : World) : Calls Try.prog 22 #[.string ⟨#[]⟩] w (Gives (rdV false 0 0 0) w) := by
  go_enter Try.func22, Try.ntmps22
  go_wp2_with fail
  go_loop [5] (fun iv => iv = .int .i64 0) (fun _ => 0)
  case atStart => rfl
  case round =>
    subst hrel
    go_wp2_with fail
    go_loop [6] (fun iv => iv = .int .i64 1) (fun _ => 0)
    case atStart => rfl
    case round =>
      subst hrel
      go_wp2_with fail
      refine bodyPost_ret (v := .tuple #[.agg #[.int .i64 0, .int .i64 0, .int .i64 0], .bool false]) (by simp [results, Try.results22, go_sem, *]) rfl ⟨rfl, by go_grown⟩

theorem take_next (m : List UInt8) (k : Nat) (h : k < m.length) : m.take (k + 1) = m.take k ++ [m[k]] := List.take_succ_eq_append_getElem h
theorem S_at (c : UInt8) (m : List UInt8) (k : Nat) (h : k + 1 < (S (c :: m)).size) (h2 : k < m.length) : (S (c :: m))[k + 1]'h = m[k] := by
  have e : (S (c :: m))[k + 1]'h = (c :: m)[k + 1]'(by rw [S_size] at h; exact h) := rfl
  rw [e]
  rfl

theorem specReadPitch_any (l : List UInt8) (hl : (S l).size ≤ maxLen) (w : World) :
    Calls Try.prog 22 #[.string (S l)] w (Gives (rV l) w) := by
  match l, hl with
  | [], _ => exact specReadPitch_nil w
  | c :: m, hl =>
    have hz : (S (c :: m)).size = m.length + 1 := by rw [S_size]; rfl
    have h0 : 0 < (S (c :: m)).size := by omega
    have e1 : stp (((S (c :: m))[0]'h0).toNat : Int) 7 = rS (c :: m) := stp_idx c
    have eK : m.take (min m.length 4) = m.take 4 := by
      rcases Nat.le_total m.length 4 with h | h
      · rw [Nat.min_eq_left h, List.take_length, List.take_of_length_le h]
      · rw [Nat.min_eq_right h]
    have e2 : (FA (m.take (min m.length 4))).1 = dA (c :: m) := by rw [eK]; rfl
    have e3 : (FA (m.take (min m.length 4))).2 = dO (c :: m) := by rw [eK]; rfl
    have hF : ∀ k (h : k + 1 < (S (c :: m)).size), FA (m.take (k + 1)) = sgn (FA (m.take k)) ((S (c :: m))[k + 1]'h) := by
      intro k h
      have h2 : k < m.length := by omega
      rw [take_next m k h2, FA_snoc, S_at c m k h h2]
    have hBd : ∀ k, k ≤ 4 → -9 ≤ (FA (m.take k)).1 ∧ (FA (m.take k)).1 ≤ 9 := by
      intro k hk
      have h1 := FA_bd (0, 0) (m.take k)
      have h2 : (m.take k).length ≤ k := List.length_take_le _ _
      unfold FA
      simp only at h1
      omega
    have hW := specReadPitch_mid (S (c :: m)) h0 hl w (rS (c :: m)) (fun k => FA (m.take k)) (min m.length 4) (Lib.hid e1) rfl (by omega) (by omega) (by omega) (Lib.hid hF) (Lib.hid hBd) _ (Lib.hid rfl)
    simp only [e2, e3, S_toList] at hW
    rw [dec2_rd (c :: m) (by simp)] at hW
    exact hW

end Go.Proofs.Ytgogpjlemaajeaa

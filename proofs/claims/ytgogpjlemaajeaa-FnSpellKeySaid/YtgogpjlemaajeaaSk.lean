/- The walk of SpellKey: for every key and both directions it returns the pitch that the plain functions name. No condition. -/
import Derived.Test.YtgogpjlemaajeaaPb
import Derived.Test.YtgogpjlemaajeaaKitb
import Derived.LoopTactic
namespace Go.Proofs.Ytgogpjlemaajeaa
open Go.RowKit

/-- The step whose half tones are r, or -1. -/
def nst (r : Int) : Int := if r = 0 then 0 else if r = 2 then 1 else if r = 4 then 2 else if r = 5 then 3 else if r = 7 then 4 else if r = 9 then 5 else if r = 11 then 6 else -1
/-- The step and the alteration of a spelled key. -/
def spS (r : Int) (b : Bool) : Int := if 0 ≤ nst r then nst r else if b then nst (r + 1) else nst (r - 1)
def spA (r : Int) (b : Bool) : Int := if 0 ≤ nst r then 0 else if b then -1 else 1
def sgn (b : Bool) : Int := if b then -1 else 1

theorem nst_nat {r : Int} (h0 : 0 ≤ r) (h1 : r ≤ 11) (h : 0 ≤ nst r) : 0 ≤ nst r ∧ nst r ≤ 6 ∧ half (nst r) = r := by
  obtain rfl | rfl | rfl | rfl | rfl | rfl | rfl | rfl | rfl | rfl | rfl | rfl : r = 0 ∨ r = 1 ∨ r = 2 ∨ r = 3 ∨ r = 4 ∨ r = 5 ∨ r = 6 ∨ r = 7 ∨ r = 8 ∨ r = 9 ∨ r = 10 ∨ r = 11 := by omega
  all_goals first | exact ⟨by decide, by decide, by decide⟩ | exact absurd h (by decide)
theorem half_no {r k : Int} (h0 : 0 ≤ r) (h1 : r ≤ 11) (h : ¬ 0 ≤ nst r) (k0 : 0 ≤ k) (k6 : k ≤ 6) : half k ≠ r := by
  obtain rfl | rfl | rfl | rfl | rfl | rfl | rfl : k = 0 ∨ k = 1 ∨ k = 2 ∨ k = 3 ∨ k = 4 ∨ k = 5 ∨ k = 6 := by omega
  all_goals
    rintro rfl
    exact h (by decide)
theorem half_lt {a b : Int} (h0 : 0 ≤ a) (h : a < b) (h6 : b ≤ 6) : half a < half b := by
  obtain rfl | rfl | rfl | rfl | rfl | rfl : a = 0 ∨ a = 1 ∨ a = 2 ∨ a = 3 ∨ a = 4 ∨ a = 5 := by omega
  all_goals
    obtain rfl | rfl | rfl | rfl | rfl | rfl : b = 1 ∨ b = 2 ∨ b = 3 ∨ b = 4 ∨ b = 5 ∨ b = 6 := by omega
    all_goals first | decide | omega
theorem nst_alt {r : Int} (b : Bool) (h0 : 0 ≤ r) (h1 : r ≤ 11) (h : ¬ 0 ≤ nst r) : 0 ≤ spS r b ∧ spS r b ≤ 6 ∧ half (spS r b) + sgn b = r := by
  obtain rfl | rfl | rfl | rfl | rfl | rfl | rfl | rfl | rfl | rfl | rfl | rfl : r = 0 ∨ r = 1 ∨ r = 2 ∨ r = 3 ∨ r = 4 ∨ r = 5 ∨ r = 6 ∨ r = 7 ∨ r = 8 ∨ r = 9 ∨ r = 10 ∨ r = 11 := by omega
  all_goals cases b <;> first | exact ⟨by decide, by decide, by decide⟩ | exact absurd (by decide) h
theorem spS_nat {r : Int} (b : Bool) (h : 0 ≤ nst r) : spS r b = nst r ∧ spA r b = 0 := by
  unfold spS spA
  rw [if_pos h, if_pos h]
  exact ⟨rfl, rfl⟩
theorem spA_alt {r : Int} (b : Bool) (h : ¬ 0 ≤ nst r) : spA r b = sgn b := by
  unfold spA sgn
  rw [if_neg h]
theorem beq_f {a b : Int} (h : a ≠ b) : (a == b) = false := by simpa using h
theorem beq_t {a b : Int} (h : a = b) : (a == b) = true := by simpa using h

def skS (key : Int) (b : Bool) : Int := if inR key 0 107 then spS (key % 12) b else 0
def skA (key : Int) (b : Bool) : Int := if inR key 0 107 then spA (key % 12) b else 0
def skO (key : Int) : Int := if inR key 0 107 then key / 12 else 0
theorem sk_t {key : Int} (b : Bool) (h : inR key 0 107 = true) : skS key b = spS (key % 12) b ∧ skA key b = spA (key % 12) b ∧ skO key = key / 12 := by
  unfold skS skA skO
  rw [h]
  exact ⟨rfl, rfl, rfl⟩
theorem sk_f {key : Int} (b : Bool) (h : inR key 0 107 = false) : skS key b = 0 ∧ skA key b = 0 ∧ skO key = 0 := by
  unfold skS skA skO
  rw [h]
  exact ⟨rfl, rfl, rfl⟩

set_option maxHeartbeats 2000000 in
theorem spellKey_any (key : Int) (b : Bool) (w : World) :
    Calls Try.prog 28 #[.int .i64 key, .bool b] w (Gives (.tuple #[.agg #[.int .i64 (skS key b), .int .i64 (skA key b), .int .i64 (skO key)], .bool (inR key 0 107)]) w) := by
  cases hk : inR key 0 107
  · obtain ⟨e1, e2, e3⟩ := sk_f b hk
    rw [e1, e2, e3]
    clear e1 e2 e3
    go_enter Try.func28, Try.ntmps28
    go_wp2_with (go_call (within_any _ _ _ _) as e w1 ⟨rfl, rfl⟩)
    refine bodyPost_ret (v := .tuple #[.agg #[.int .i64 0, .int .i64 0, .int .i64 0], .bool false]) (by simp [results, Try.results28, go_sem]) rfl ⟨rfl, by go_grown⟩
  obtain ⟨e1, e2, e3⟩ := sk_t b hk
  rw [e1, e2, e3]
  clear e1 e2 e3
  obtain ⟨k0, k1⟩ := inR_t hk
  have r0 : 0 ≤ key % 12 := by omega
  have r1 : key % 12 ≤ 11 := by omega
  by_cases hn : 0 ≤ nst (key % 12)
  · obtain ⟨n0, n1, n2⟩ := nst_nat r0 r1 hn
    obtain ⟨e1, e2⟩ := spS_nat b hn
    rw [e1, e2]
    clear e1 e2 hn
    have N2 := Lib.hid n2
    clear n2
    generalize nst (key % 12) = h at n0 n1 N2 ⊢
    have i0 : ∀ w, (Instr.index 48 (.agg #[.int .i64 0, .int .i64 1]) (.int .i64 0)).run Try.prog w = .ok (.int .i64 0) w := fun _ => by kernel_rfl
    cases b
    all_goals
      go_enter Try.func28, Try.ntmps28
      go_wp2_with (go_call (within_any _ _ _ _) as e w1 ⟨rfl, rfl⟩)
      refine wp_loop_rounds 1 ?_
      rw [rounds_succ]
      go_wp2_with fail
      go_loop [20] (fun i => ∃ k : Int, 0 ≤ k ∧ k ≤ h ∧ i = .int .i64 k) (fun i => 7 - (intOf i).toNat)
      case atStart => exact ⟨0, by omega, by omega, rfl⟩
      case round =>
        obtain ⟨k, q0, q1, rfl⟩ := hrel
        obtain ⟨b0, b1⟩ := half_bd k
        by_cases hkh : k = h
        · have ht := beq_t (show half k = key % 12 by rw [hkh]; exact N2.out)
          obtain rfl : h = k := hkh.symm
          clear hkh
          go_wp2_with (go_at_call 39; go_call (stepHalves_any _ (by omega) (by omega) _) as e w1 ⟨rfl, rfl⟩)
          refine bodyPost_ret (v := .tuple #[.agg #[.int .i64 h, .int .i64 0, .int .i64 (key / 12)], .bool true]) (by simp [results, Try.results28, go_sem]) rfl ⟨rfl, by go_grown⟩
        · have ht := beq_f (show half k ≠ key % 12 by have h1 := N2.out; have h2 := half_lt q0 (show k < h by omega) n1; omega)
          have hlt : k < h := by omega
          clear hkh
          go_wp2_with (go_at_call 39; go_call (stepHalves_any _ (by omega) (by omega) _) as e w1 ⟨rfl, rfl⟩)
          go_round
          case rel => exact ⟨k + 1, by omega, by omega, by go_num⟩
          case measure => simp [intOf]; omega
  · obtain ⟨n0, n1, n2⟩ := nst_alt b r0 r1 hn
    rw [spA_alt b hn]
    have HN := Lib.hid (fun (k : Int) (k0 : 0 ≤ k) (k6 : k ≤ 6) => half_no (k := k) r0 r1 hn k0 k6)
    clear hn
    have N2 := Lib.hid n2
    clear n2
    generalize spS (key % 12) b = h at n0 n1 N2 ⊢
    have i0 : ∀ w, (Instr.index 48 (.agg #[.int .i64 0, .int .i64 1]) (.int .i64 0)).run Try.prog w = .ok (.int .i64 0) w := fun _ => by kernel_rfl
    have i1 : ∀ w, (Instr.index 48 (.agg #[.int .i64 0, .int .i64 1]) (.int .i64 1)).run Try.prog w = .ok (.int .i64 1) w := fun _ => by kernel_rfl
    cases b
    · simp only [sgn, if_false, Bool.false_eq_true] at N2 ⊢
      go_enter Try.func28, Try.ntmps28
      go_wp2_with (go_call (within_any _ _ _ _) as e w1 ⟨rfl, rfl⟩)
      go_loop [14] (fun i => i = .int .i64 0 ∨ i = .int .i64 1) (fun i => 2 - (intOf i).toNat)
      case atStart => exact .inl rfl
      case round =>
        rcases hrel with rfl | rfl
        · go_wp2_with fail
          go_loop [20] (fun i => ∃ k : Int, 0 ≤ k ∧ k ≤ 7 ∧ i = .int .i64 k) (fun i => 7 - (intOf i).toNat)
          case atStart => exact ⟨0, by omega, by omega, rfl⟩
          case round =>
            obtain ⟨k, q0, q1, rfl⟩ := hrel
            obtain ⟨b0, b1⟩ := half_bd k
            by_cases hk7 : k < 7
            · have ht := beq_f (HN.out k q0 (by omega))
              go_wp2_with (go_at_call 39; go_call (stepHalves_any _ (by omega) (by omega) _) as e w1 ⟨rfl, rfl⟩)
              go_round
              case rel => exact ⟨k + 1, by omega, by omega, by go_num⟩
              case measure => simp [intOf]; omega
            · go_wp2_with fail
              go_round
              case rel => exact .inr rfl
              case measure => simp [intOf]
        · go_wp2_with fail
          go_loop [20] (fun i => ∃ k : Int, 0 ≤ k ∧ k ≤ h ∧ i = .int .i64 k) (fun i => 7 - (intOf i).toNat)
          case atStart => exact ⟨0, by omega, by omega, rfl⟩
          case round =>
            obtain ⟨k, q0, q1, rfl⟩ := hrel
            obtain ⟨b0, b1⟩ := half_bd k
            by_cases hkh : k = h
            · have ht := beq_t (show half k + 1 = key % 12 by rw [hkh]; exact N2.out)
              obtain rfl : h = k := hkh.symm
              clear hkh
              go_wp2_with (go_at_call 39; go_call (stepHalves_any _ (by omega) (by omega) _) as e w1 ⟨rfl, rfl⟩)
              refine bodyPost_ret (v := .tuple #[.agg #[.int .i64 h, .int .i64 (1), .int .i64 (key / 12)], .bool true]) (by simp [results, Try.results28, go_sem]) rfl ⟨rfl, by go_grown⟩
            · have ht := beq_f (show half k + 1 ≠ key % 12 by have h1 := N2.out; have h2 := half_lt q0 (show k < h by omega) n1; omega)
              have hlt : k < h := by omega
              clear hkh
              go_wp2_with (go_at_call 39; go_call (stepHalves_any _ (by omega) (by omega) _) as e w1 ⟨rfl, rfl⟩)
              go_round
              case rel => exact ⟨k + 1, by omega, by omega, by go_num⟩
              case measure => simp [intOf]; omega
    · simp only [sgn, if_true] at N2 ⊢
      go_enter Try.func28, Try.ntmps28
      go_wp2_with (go_call (within_any _ _ _ _) as e w1 ⟨rfl, rfl⟩)
      go_loop [14] (fun i => i = .int .i64 0 ∨ i = .int .i64 1) (fun i => 2 - (intOf i).toNat)
      case atStart => exact .inl rfl
      case round =>
        rcases hrel with rfl | rfl
        · go_wp2_with fail
          go_loop [20] (fun i => ∃ k : Int, 0 ≤ k ∧ k ≤ 7 ∧ i = .int .i64 k) (fun i => 7 - (intOf i).toNat)
          case atStart => exact ⟨0, by omega, by omega, rfl⟩
          case round =>
            obtain ⟨k, q0, q1, rfl⟩ := hrel
            obtain ⟨b0, b1⟩ := half_bd k
            by_cases hk7 : k < 7
            · have ht := beq_f (HN.out k q0 (by omega))
              go_wp2_with (go_at_call 39; go_call (stepHalves_any _ (by omega) (by omega) _) as e w1 ⟨rfl, rfl⟩)
              go_round
              case rel => exact ⟨k + 1, by omega, by omega, by go_num⟩
              case measure => simp [intOf]; omega
            · go_wp2_with fail
              go_round
              case rel => exact .inr rfl
              case measure => simp [intOf]
        · go_wp2_with fail
          go_loop [20] (fun i => ∃ k : Int, 0 ≤ k ∧ k ≤ h ∧ i = .int .i64 k) (fun i => 7 - (intOf i).toNat)
          case atStart => exact ⟨0, by omega, by omega, rfl⟩
          case round =>
            obtain ⟨k, q0, q1, rfl⟩ := hrel
            obtain ⟨b0, b1⟩ := half_bd k
            by_cases hkh : k = h
            · have ht := beq_t (show half k + -1 = key % 12 by rw [hkh]; exact N2.out)
              obtain rfl : h = k := hkh.symm
              clear hkh
              go_wp2_with (go_at_call 39; go_call (stepHalves_any _ (by omega) (by omega) _) as e w1 ⟨rfl, rfl⟩)
              refine bodyPost_ret (v := .tuple #[.agg #[.int .i64 h, .int .i64 (-1), .int .i64 (key / 12)], .bool true]) (by simp [results, Try.results28, go_sem]) rfl ⟨rfl, by go_grown⟩
            · have ht := beq_f (show half k + -1 ≠ key % 12 by have h1 := N2.out; have h2 := half_lt q0 (show k < h by omega) n1; omega)
              have hlt : k < h := by omega
              clear hkh
              go_wp2_with (go_at_call 39; go_call (stepHalves_any _ (by omega) (by omega) _) as e w1 ⟨rfl, rfl⟩)
              go_round
              case rel => exact ⟨k + 1, by omega, by omega, by go_num⟩
              case measure => simp [intOf]; omega

end Go.Proofs.Ytgogpjlemaajeaa

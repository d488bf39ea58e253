/- The walk of the laws' samePitches, and plain facts on scales. Conditions: as stated. -/
import Derived.Test.YtojkbeffhjcaiaaKs
import Derived.Test.YtojkbeffhjcaiaaKm
import Derived.Deep.QuietTactic
import Derived.BigQuiet
namespace Go.Proofs.Ytojkbeffhjcaiaa
open Go.RowKit

set_option maxHeartbeats 1000000 in
theorem samePitches_any (a a' : Option Addr) (n cap cap' : Nat) (f : Nat → Int) (w : World) (h : Sees w a (n * 3) (ic f)) (h' : Sees w a' (n * 3) (ic f)) (hn : n ≤ 1000000) :
    Calls Try.prog 40 #[.slice a n cap, .slice a' n cap'] w (Gives (.bool true) w) := by
  have HS := Lib.hid h
  have HT := Lib.hid h'
  clear h h'
  go_enter Try.func40, Try.ntmps40
  go_wp2_with fail
  go_loopw [5] (fun i wr => ∃ k : Nat, k ≤ n ∧ i = .int .i64 k ∧ Below w.heap.size w wr) (fun i _ => n - (intOf i).toNat)
  case atStart => exact ⟨0, Nat.zero_le _, rfl, Below.refl _ _⟩
  case round =>
    obtain ⟨k, hk, rfl, hB⟩ := hrel
    have hsz := hB.size
    by_cases hlt : k < n
    · obtain ⟨g, off, rfl, hc⟩ := (HS.out.pure hB) (by omega)
      obtain ⟨c0, c1, c2⟩ := at3 hc hlt
      clear hc
      obtain ⟨g', off', rfl, hc⟩ := (HT.out.pure hB) (by omega)
      obtain ⟨d0, d1, d2⟩ := at3 hc hlt
      clear hc
      have hi0 : (0 : Int) ≤ (k : Int) := by omega
      have hi1 : (k : Int) < (n : Int) := by omega
      have hB' := Lib.hid hB
      clear hB
      go_wp2_with fail
      go_quiet (fail)
      go_wp2_with fail
      go_roundw
      case rel => exact ⟨k + 1, by omega, by go_num, below_drewN hB'.out _⟩
      case measure => simp [intOf]; omega
    · obtain rfl : k = n := by omega
      go_wp2
      go_ret
      exact ⟨rfl, hB⟩

/-- The step of a scale behind degree k: half tones. -/
def want (m : Bool) (k : Nat) : Int := if !m && (k == 3 || k == 7) || m && (k == 2 || k == 5) then 1 else 2
/-- Degree k of a scale. -/
def dS (f : Int) (m : Bool) (k : Nat) : Int := (28 + ton f m + (k : Int)) % 7
def dO (f : Int) (m : Bool) (k : Nat) : Int := (28 + ton f m + (k : Int)) / 7
def dA (f : Int) (m : Bool) (k : Nat) : Int := altV f (dS f m k)
theorem scale_facts (f : Int) (m : Bool) (k : Nat) (h : inR f (-7) 7 = true) (hk : k < 7) :
    keyV (dS f m (k + 1)) (dA f m (k + 1)) (dO f m (k + 1)) - keyV (dS f m k) (dA f m k) (dO f m k) = want m (k + 1) ∧
    placeV (dS f m (k + 1)) (dA f m (k + 1)) (dO f m (k + 1)) - placeV (dS f m k) (dA f m k) (dO f m k) = 1 ∧ inKeyB f (dS f m (k + 1)) (dA f m (k + 1)) (dO f m (k + 1)) = true := by
  have h' := inR_t h
  obtain rfl | rfl | rfl | rfl | rfl | rfl | rfl : k = 0 ∨ k = 1 ∨ k = 2 ∨ k = 3 ∨ k = 4 ∨ k = 5 ∨ k = 6 := by omega
  all_goals
    obtain rfl | rfl | rfl | rfl | rfl | rfl | rfl | rfl | rfl | rfl | rfl | rfl | rfl | rfl | rfl : f = -7 ∨ f = -6 ∨ f = -5 ∨ f = -4 ∨ f = -3 ∨ f = -2 ∨ f = -1 ∨ f = 0 ∨ f = 1 ∨ f = 2 ∨ f = 3 ∨ f = 4 ∨ f = 5 ∨ f = 6 ∨ f = 7 := by omega
    all_goals cases m <;> exact ⟨by decide, by decide, by decide⟩
theorem scale_octave (f : Int) (m : Bool) (h : inR f (-7) 7 = true) : keyV (dS f m 7) (dA f m 7) (dO f m 7) - keyV (dS f m 0) (dA f m 0) (dO f m 0) = 12 := by
  have h' := inR_t h
  obtain rfl | rfl | rfl | rfl | rfl | rfl | rfl | rfl | rfl | rfl | rfl | rfl | rfl | rfl | rfl : f = -7 ∨ f = -6 ∨ f = -5 ∨ f = -4 ∨ f = -3 ∨ f = -2 ∨ f = -1 ∨ f = 0 ∨ f = 1 ∨ f = 2 ∨ f = 3 ∨ f = 4 ∨ f = 5 ∨ f = 6 ∨ f = 7 := by omega
  all_goals cases m <;> decide

end Go.Proofs.Ytojkbeffhjcaiaa

/- The walk of the laws' sameVoice: two slices that see the same notes are the same. Conditions: as stated. -/
import Derived.Test.YtmkkhbplfedpoaaNo
import Derived.Deep.QuietTactic
import Derived.BigQuiet
namespace Go.Proofs.Ytmkkhbplfedpoaa
open Go.RowKit

theorem nc_take (xs : List (Bool × Int × Int × Int × Int × Bool)) {k i : Nat} (h : i < k * 6) : nc (xs.take k) i = nc xs i := by
  unfold nc
  rw [List.getElem?_take_of_lt (by omega)]
theorem nc_drop (xs : List (Bool × Int × Int × Int × Int × Bool)) (k i : Nat) : nc (xs.drop k) i = nc xs (k * 6 + i) := by
  unfold nc
  rw [List.getElem?_drop, show k + i / 6 = (k * 6 + i) / 6 by omega, show (k * 6 + i) % 6 = i % 6 by omega]
theorem Voice.take {w : World} {a : Option Addr} {xs : List (Bool × Int × Int × Int × Int × Bool)} (h : Voice w a xs) {k : Nat} (hk : k ≤ xs.length) : Voice w a (xs.take k) := fun h0 => by
  rw [List.length_take, Nat.min_eq_left hk] at h0
  obtain ⟨g, off, e, hc⟩ := h (by omega)
  refine ⟨g, off, e, fun i hi => ?_⟩
  rw [List.length_take, Nat.min_eq_left hk] at hi
  rw [nc_take xs hi]
  exact hc i (by omega)
theorem Voice.drop {w : World} {g off : Nat} {xs : List (Bool × Int × Int × Int × Int × Bool)} (h : Voice w (some ⟨g, off, none⟩) xs) (k : Nat) : Voice w (some ⟨g, off + k * 6, none⟩) (xs.drop k) := fun h0 => by
  rw [List.length_drop] at h0
  obtain ⟨g', off', e, hc⟩ := h (by omega)
  obtain ⟨rfl, rfl⟩ : g = g' ∧ off = off' := by injection e with e1; injection e1 with e2 e3 e4; exact ⟨e2, e3⟩
  refine ⟨g, off + k * 6, rfl, fun i hi => ?_⟩
  rw [List.length_drop] at hi
  rw [nc_drop, Nat.add_assoc]
  exact hc _ (by omega)

set_option maxHeartbeats 2000000 in
theorem sameVoice_any (a a' : Option Addr) (n cap cap' : Nat) (xs : List (Bool × Int × Int × Int × Int × Bool)) (w : World) (hx : xs.length = n) (h : Voice w a xs) (h' : Voice w a' xs) (hn : n ≤ 10000000) :
    Calls Try.prog 44 #[.slice a n cap, .slice a' n cap'] w (Gives (.bool true) w) := by
  unfold Voice at h h'
  rw [hx] at h h'
  have HX := Lib.hid hx
  have HS := Lib.hid h
  have HT := Lib.hid h'
  clear h h' hx
  go_enter Try.func44, Try.ntmps44
  go_wp2_with fail
  go_loopw [5] (fun i wr => ∃ k : Nat, k ≤ n ∧ i = .int .i64 k ∧ Below w.heap.size w wr) (fun i _ => n - (intOf i).toNat)
  case atStart => exact ⟨0, Nat.zero_le _, rfl, Below.refl _ _⟩
  case round =>
    obtain ⟨k, hk, rfl, hB⟩ := hrel
    have hsz := hB.size
    by_cases hlt : k < n
    · obtain ⟨⟨r, s, x, o, t, d⟩, hxk⟩ := nth (xs := xs) (k := k) (by have := HX.out; omega)
      obtain ⟨g, off, rfl, hc⟩ := (HS.out.pure hB) (by omega)
      obtain ⟨c0, c1, c2, c3, c4, c5⟩ := at6 hc hlt hxk
      clear hc
      obtain ⟨g', off', rfl, hc⟩ := (HT.out.pure hB) (by omega)
      obtain ⟨d0, d1, d2, d3, d4, d5⟩ := at6 hc hlt hxk
      clear hc hxk
      have hi0 : (0 : Int) ≤ (k : Int) := by omega
      have hi1 : (k : Int) < (n : Int) := by omega
      have HB := Lib.hid hB
      clear hB
      go_wp2_with fail
      go_quiet (fail)
      go_wp2_with fail
      go_roundw
      case rel => exact ⟨k + 1, by omega, by go_num, below_drewN HB.out _⟩
      case measure => simp [intOf]; omega
    · obtain rfl : k = n := by omega
      go_wp2
      go_ret
      exact ⟨rfl, hB⟩

end Go.Proofs.Ytmkkhbplfedpoaa

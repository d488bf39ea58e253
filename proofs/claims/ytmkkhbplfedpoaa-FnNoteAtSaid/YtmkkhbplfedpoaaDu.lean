/- The walks of the draws of voices: each opens a reader and draws; it returns some notes in a row of the call's own, and nothing old has turned. Conditions: the code lies in memory as a slice of bytes that came in does. -/
import Derived.Test.YtmkkhbplfedpoaaDo
import Derived.Test.YtmkkhbplfedpoaaBytes
namespace Go.Proofs.Ytmkkhbplfedpoaa
open Go.RowKit

/-- What a draw of a voice leaves. -/
def DrawnVoice (w : World) (e : Ending) (w' : World) : Prop :=
  ∃ a cap L, e = .returned (.slice a (List.length L) cap) ∧ Below w.heap.size w w' ∧ Voice w' a L ∧ L.length ≤ 70 ∧ L.length ≤ cap ∧ cap ≤ maxLen
theorem Voice.drew {w : World} {a : Option Addr} {L : List (Bool × Int × Int × Int × Int × Bool)} (h : Voice w a L) : Voice w.drew a L := h

set_option maxHeartbeats 2000000 in
theorem drawVoiceValid_any (a : Option Addr) (len cap : Nat) (w : World) (h : Code' w a len cap) (hl : len ≤ 1048576) :
    Calls Try.prog 40 #[.slice a len cap] w (DrawnVoice w) := by
  obtain ⟨h1, h2, h3⟩ := h
  go_enter Try.func40, Try.ntmps40
  go_wp2_with fail
  refine (open_any a len cap _ (by first | exact h1 | exact (Code'.below (w := w) ⟨h1, h2, h3⟩ (by go_grown)).1) hl h2 h3).mono ?_
  rintro e w1 ⟨R, rfl, hR, hb, hr⟩
  have hB1 := below_pure (w := w) (by go_grown) hb
  clear hb
  have hR' : w.heap.size ≤ R := by (try simp at hR); omega
  clear hR
  have D1 := Dr.start hr
  go_wp2_with fail
  refine (l20Voice_any R _ 2 _ D1.rd (by omega) (by omega) (by omega)).mono ?_
  rintro e w2 ⟨b, cb, L, rfl, hL, E, O, l1, l2⟩
  have V0 : Voice w2 b L := O.sees
  replace D1 := D1.pick E.1 E.2.1
  clear E O
  have hB : Below w.heap.size w w2 := D1.whole hB1 (by omega)
  clear D1 hB1 hr
  go_wp2
  go_ret
  exact ⟨b, cb, L, rfl, hB, V0, hL, l1, l2⟩

set_option maxHeartbeats 2000000 in
theorem drawVoiceTicks_any (a : Option Addr) (len cap : Nat) (w : World) (h : Code' w a len cap) (hl : len ≤ 1048576) :
    Calls Try.prog 41 #[.slice a len cap] w (DrawnVoice w) := by
  obtain ⟨h1, h2, h3⟩ := h
  go_enter Try.func41, Try.ntmps41
  go_wp2_with fail
  refine (open_any a len cap _ (by first | exact h1 | exact (Code'.below (w := w) ⟨h1, h2, h3⟩ (by go_grown)).1) hl h2 h3).mono ?_
  rintro e w1 ⟨R, rfl, hR, hb, hr⟩
  have hB1 := below_pure (w := w) (by go_grown) hb
  clear hb
  have hR' : w.heap.size ≤ R := by (try simp at hR); omega
  clear hR
  have D1 := Dr.start hr
  go_wp2_with fail
  refine (l20Voice_any R _ 9 _ D1.rd (by omega) (by omega) (by omega)).mono ?_
  rintro e w2 ⟨b, cb, L, rfl, hL, E, O, l1, l2⟩
  have V0 : Voice w2 b L := O.sees
  replace D1 := D1.pick E.1 E.2.1
  clear E O
  have hB : Below w.heap.size w w2 := D1.whole hB1 (by omega)
  clear D1 hB1 hr
  go_wp2
  go_ret
  exact ⟨b, cb, L, rfl, hB, V0, hL, l1, l2⟩

set_option maxHeartbeats 2000000 in
theorem drawTurnVoice_any (a : Option Addr) (len cap : Nat) (w : World) (h : Code' w a len cap) (hl : len ≤ 1048576) :
    Calls Try.prog 43 #[.slice a len cap] w (DrawnVoice w) := by
  obtain ⟨h1, h2, h3⟩ := h
  go_enter Try.func43, Try.ntmps43
  go_wp2_with fail
  refine (open_any a len cap _ (by first | exact h1 | exact (Code'.below (w := w) ⟨h1, h2, h3⟩ (by go_grown)).1) hl h2 h3).mono ?_
  rintro e w1 ⟨R, rfl, hR, hb, hr⟩
  have hB1 := below_pure (w := w) (by go_grown) hb
  clear hb
  have hR' : w.heap.size ≤ R := by (try simp at hR); omega
  clear hR
  have D1 := Dr.start hr
  go_wp2_with fail
  refine (l20Voice_any R _ 12 _ D1.rd (by omega) (by omega) (by omega)).mono ?_
  rintro e w2 ⟨b, cb, L, rfl, hL, E, O, l1, l2⟩
  have V0 : Voice w2 b L := O.sees
  replace D1 := D1.pick E.1 E.2.1
  clear E O
  have hB : Below w.heap.size w w2 := D1.whole hB1 (by omega)
  clear D1 hB1 hr
  go_wp2
  go_ret
  exact ⟨b, cb, L, rfl, hB, V0, hL, l1, l2⟩

set_option maxHeartbeats 2000000 in
theorem drawJoinTies_any (a : Option Addr) (len cap : Nat) (w : World) (h : Code' w a len cap) (hl : len ≤ 1048576) :
    Calls Try.prog 45 #[.slice a len cap] w (DrawnVoice w) := by
  obtain ⟨h1, h2, h3⟩ := h
  go_enter Try.func45, Try.ntmps45
  go_wp2_with fail
  refine (open_any a len cap _ (by first | exact h1 | exact (Code'.below (w := w) ⟨h1, h2, h3⟩ (by go_grown)).1) hl h2 h3).mono ?_
  rintro e w1 ⟨R, rfl, hR, hb, hr⟩
  have hB1 := below_pure (w := w) (by go_grown) hb
  clear hb
  have hR' : w.heap.size ≤ R := by (try simp at hR); omega
  clear hR
  have D1 := Dr.start hr
  go_wp2_with fail
  refine (l20Voice_any R _ 12 _ D1.rd (by omega) (by omega) (by omega)).mono ?_
  rintro e w2 ⟨b, cb, L, rfl, hL, E, O, l1, l2⟩
  have V0 : Voice w2 b L := O.sees
  replace D1 := D1.pick E.1 E.2.1
  clear E O
  have hB : Below w.heap.size w w2 := D1.whole hB1 (by omega)
  clear D1 hB1 hr
  go_wp2
  go_ret
  exact ⟨b, cb, L, rfl, hB, V0, hL, l1, l2⟩

end Go.Proofs.Ytmkkhbplfedpoaa

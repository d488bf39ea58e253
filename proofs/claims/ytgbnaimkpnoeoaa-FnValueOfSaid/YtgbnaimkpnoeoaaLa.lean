/- The walks of the functions on single values of notes. No condition. -/
import Derived.Test.YtgbnaimkpnoeoaaPb
import Derived.Test.YtgbnaimkpnoeoaaKitb
namespace Go.Proofs.Ytgbnaimkpnoeoaa
open Go.RowKit

def baseB (b : Int) : Bool := b == 1 || b == 2 || b == 4 || b == 8 || b == 16
def tupB (t : Int) : Bool := t == 1 || t == 3
def valB (b d t : Int) : Bool := baseB b && inR d 0 2 && tupB t
/-- The ticks of a valid value. -/
def tick (b d t : Int) : Int := if t = 3 then (192 / b * (if d = 0 then 4 else if d = 1 then 6 else 7) / 4) * 2 / 3 else 192 / b * (if d = 0 then 4 else if d = 1 then 6 else 7) / 4
def tickV (b d t : Int) : Int := if valB b d t then tick b d t else -1
theorem tickV_t {b d t : Int} (h : valB b d t = true) : tickV b d t = tick b d t := by unfold tickV; rw [if_pos h]
theorem tickV_f {b d t : Int} (h : valB b d t = false) : tickV b d t = -1 := by unfold tickV; rw [h]; rfl
theorem base_cases {b : Int} (h : baseB b = true) : b = 1 ∨ b = 2 ∨ b = 4 ∨ b = 8 ∨ b = 16 := by
  unfold baseB at h
  simp only [Bool.or_eq_true, beq_iff_eq] at h
  omega
theorem tup_cases {t : Int} (h : tupB t = true) : t = 1 ∨ t = 3 := by
  unfold tupB at h
  simp only [Bool.or_eq_true, beq_iff_eq] at h
  omega
theorem base_no {b : Int} (h : baseB b = false) : (b == 1) = false ∧ (b == 2) = false ∧ (b == 4) = false ∧ (b == 8) = false ∧ (b == 16) = false := by
  unfold baseB at h
  simp only [Bool.or_eq_false_iff] at h
  exact ⟨h.1.1.1.1, h.1.1.1.2, h.1.1.2, h.1.2, h.2⟩
theorem tup_no {t : Int} (h : tupB t = false) : (t == 1) = false ∧ (t == 3) = false := by
  unfold tupB at h
  simp only [Bool.or_eq_false_iff] at h
  exact h

set_option maxHeartbeats 2000000 in
theorem valueValid_any (b d t : Int) (w : World) : Calls Try.prog 15 #[.agg #[.int .i64 b, .int .i64 d, .int .i64 t]] w (Gives (.bool (valB b d t)) w) := by
  cases hb : baseB b
  · have HR := Lib.hid (show valB b d t = false by unfold valB; rw [hb]; rfl)
    obtain ⟨n1, n2, n3, n4, n5⟩ := base_no hb
    go_enter Try.func15, Try.ntmps15
    go_wp2
    go_ret
    exact ⟨by rw [HR.out]; rfl, by go_grown⟩
  have A1 : inR d 0 2 = false → valB b d t = false := fun h => by unfold valB; rw [h, Bool.and_false, Bool.false_and]
  have A2 : tupB t = false → valB b d t = false := fun h => by unfold valB; rw [h, Bool.and_false]
  have A3 : inR d 0 2 = true → tupB t = true → valB b d t = true := fun h h' => by unfold valB; rw [hb, h, h']; rfl
  generalize valB b d t = q at A1 A2 A3 ⊢
  obtain rfl | rfl | rfl | rfl | rfl := base_cases hb
  all_goals
    clear hb
    cases hd : inR d 0 2
    · obtain rfl := A1 hd
      clear A1 A2 A3
      go_enter Try.func15, Try.ntmps15
      go_wp2_with (go_at_call 33; go_call (within_any _ _ _ _) as e w1 ⟨rfl, rfl⟩)
      go_ret
      exact ⟨rfl, by go_grown⟩
    cases ht : tupB t
    · obtain rfl := A2 ht
      clear A1 A2 A3
      obtain ⟨n1, n2⟩ := tup_no ht
      go_enter Try.func15, Try.ntmps15
      go_wp2_with (go_at_call 33; go_call (within_any _ _ _ _) as e w1 ⟨rfl, rfl⟩)
      go_ret
      exact ⟨rfl, by go_grown⟩
    obtain rfl | rfl := tup_cases ht
    all_goals
      obtain rfl := A3 hd ht
      clear A1 A2 A3
      clear ht
      go_enter Try.func15, Try.ntmps15
      go_wp2_with (go_at_call 33; go_call (within_any _ _ _ _) as e w1 ⟨rfl, rfl⟩)
      go_ret
      exact ⟨rfl, by go_grown⟩

set_option maxHeartbeats 2000000 in
theorem specValueValid_any (b d t : Int) (w : World) : Calls Try.prog 13 #[.agg #[.int .i64 b, .int .i64 d, .int .i64 t]] w (Gives (.bool (valB b d t)) w) := by
  cases hb : baseB b
  · have HR := Lib.hid (show valB b d t = false by unfold valB; rw [hb]; rfl)
    obtain ⟨n1, n2, n3, n4, n5⟩ := base_no hb
    go_enter Try.func13, Try.ntmps13
    go_wp2
    go_ret
    exact ⟨by rw [HR.out]; rfl, by go_grown⟩
  have A1 : inR d 0 2 = false → valB b d t = false := fun h => by unfold valB; rw [h, Bool.and_false, Bool.false_and]
  have A2 : tupB t = false → valB b d t = false := fun h => by unfold valB; rw [h, Bool.and_false]
  have A3 : inR d 0 2 = true → tupB t = true → valB b d t = true := fun h h' => by unfold valB; rw [hb, h, h']; rfl
  generalize valB b d t = q at A1 A2 A3 ⊢
  obtain rfl | rfl | rfl | rfl | rfl := base_cases hb
  all_goals
    clear hb
    cases hd : inR d 0 2
    · obtain rfl := A1 hd
      clear A1 A2 A3
      go_enter Try.func13, Try.ntmps13
      go_wp2_with (go_at_call 32; go_call (l1In_any _ _ _ _) as e w1 ⟨rfl, rfl⟩)
      go_ret
      exact ⟨rfl, by go_grown⟩
    cases ht : tupB t
    · obtain rfl := A2 ht
      clear A1 A2 A3
      obtain ⟨n1, n2⟩ := tup_no ht
      go_enter Try.func13, Try.ntmps13
      go_wp2_with (go_at_call 32; go_call (l1In_any _ _ _ _) as e w1 ⟨rfl, rfl⟩)
      go_ret
      exact ⟨rfl, by go_grown⟩
    obtain rfl | rfl := tup_cases ht
    all_goals
      obtain rfl := A3 hd ht
      clear A1 A2 A3
      clear ht
      go_enter Try.func13, Try.ntmps13
      go_wp2_with (go_at_call 32; go_call (l1In_any _ _ _ _) as e w1 ⟨rfl, rfl⟩)
      go_ret
      exact ⟨rfl, by go_grown⟩

end Go.Proofs.Ytgbnaimkpnoeoaa

/- Plain facts on tonics, keys found, and pitches in keys. No condition. -/
import Derived.Test.YtojkbeffhjcaiaaKl
import Derived.Test.YtojkbeffhjcaiaaKc
namespace Go.Proofs.Ytojkbeffhjcaiaa
open Go.RowKit

theorem ton_back (f : Int) (m : Bool) (h : inR f (-7) 7 = true) :
    kofV (tonS f m) (tonA f m) (tonO f) m = f ∧ kofB (tonS f m) (tonA f m) (tonO f) m = true ∧ inKeyB f (tonS f m) (tonA f m) (tonO f) = true := by
  have h' := inR_t h
  obtain rfl | rfl | rfl | rfl | rfl | rfl | rfl | rfl | rfl | rfl | rfl | rfl | rfl | rfl | rfl : f = -7 ∨ f = -6 ∨ f = -5 ∨ f = -4 ∨ f = -3 ∨ f = -2 ∨ f = -1 ∨ f = 0 ∨ f = 1 ∨ f = 2 ∨ f = 3 ∨ f = 4 ∨ f = 5 ∨ f = 6 ∨ f = 7 := by omega
  all_goals cases m <;> exact ⟨by decide, by decide, by decide⟩
theorem kof_hit {s a o : Int} {m : Bool} (h : kofB s a o m = true) : inR (kofV s a o m) (-7) 7 = true ∧ tonS (kofV s a o m) m = s ∧ tonA (kofV s a o m) m = a := by
  unfold kofB at h
  cases hk : kofN s a o m with
  | none => rw [hk] at h; cases h
  | some j =>
    have hv : kofV s a o m = (j : Int) - 7 := by unfold kofV; rw [hk]
    unfold kofN at hk
    split at hk
    · rw [List.find?_range_eq_some] at hk
      obtain ⟨h1, h2, -⟩ := hk
      have h3 : j < 15 := by simpa using h2
      have hr : inR ((j : Int) - 7) (-7) 7 = true := by unfold inR; exact decide_eq_true ⟨by omega, by omega⟩
      rw [hv, tonS_t hr, tonA_t hr]
      unfold hitB at h1
      simp only [Bool.and_eq_true, beq_iff_eq] at h1
      exact ⟨hr, h1.1, h1.2⟩
    · cases hk
theorem kof_miss {s a o : Int} {m : Bool} (h : kofB s a o m = false) : kofV s a o m = 0 := by
  unfold kofB at h
  cases hk : kofN s a o m with
  | none => unfold kofV; rw [hk]
  | some j => rw [hk] at h; cases h
theorem inKey_valid {f s a o : Int} (h : inR f (-7) 7 = true) (hv : pitchB s a o = true) : inKeyB f s a o = (a == altV f s) := by
  have h1 := inR_t h
  have h2 := pitchB_t hv
  unfold inKeyB
  rw [h, hv, altV_t (keyB_mk (by omega))]
  rfl
theorem inKey_f {f s a o : Int} (h : inR f (-7) 7 = false) : inKeyB f s a o = false := by unfold inKeyB; rw [h]; rfl
theorem inKey_v {f s a o : Int} (h : pitchB s a o = false) : inKeyB f s a o = false := by unfold inKeyB; rw [h]; simp

end Go.Proofs.Ytojkbeffhjcaiaa

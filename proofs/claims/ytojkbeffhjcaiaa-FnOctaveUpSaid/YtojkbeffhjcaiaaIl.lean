/- Plain facts on intervals: the way back, an octave more, the rest. No condition. -/
import Derived.Test.YtojkbeffhjcaiaaIb
namespace Go.Proofs.Ytojkbeffhjcaiaa
open Go.RowKit

theorem qual_neg (s h : Int) : qual (-s) (-h) = qual s h := by
  unfold qual upH upS
  cases h1 : downB s h
  · have g1 := downB_f h1
    by_cases hz : s = 0 ∧ h = 0
    · obtain ⟨rfl, rfl⟩ := hz
      rfl
    · have h2 : downB (-s) (-h) = true := by unfold downB; exact decide_eq_true (by omega)
      rw [h2]
      simp
  · have g1 := downB_t h1
    have h2 : downB (-s) (-h) = false := by unfold downB; exact decide_eq_false (by omega)
    rw [h2]
    simp
theorem intB_neg (s h : Int) : intB (-s) (-h) = intB s h := by
  cases hi : intB s h
  · refine intB_no fun hh => ?_
    rw [qual_neg] at hh
    rw [intB_mk (by omega)] at hi
    cases hi
  · have := intB_t hi
    exact intB_mk (by rw [qual_neg]; omega)
theorem natu_7 (p : Int) : natu (p + 7) = natu p + 12 := by
  unfold natu
  rw [show (p + 7) / 7 = p / 7 + 1 from by omega, show (p + 7) % 7 = p % 7 from by omega]
  omega
theorem downB_pos {s h : Int} (hs : 1 ≤ s) : downB s h = false := by unfold downB; exact decide_eq_false (by omega)
theorem qual_7 {s h : Int} (hs : 1 ≤ s) : qual (s + 7) (h + 12) = qual s h := by
  unfold qual upH upS
  rw [downB_pos hs, downB_pos (show 1 ≤ s + 7 by omega)]
  simp only [if_false, Bool.false_eq_true]
  rw [natu_7]
  omega
theorem qualV_7 {s h : Int} (hi : intB s h = true) (hs : 1 ≤ s) (hs' : s ≤ 14) : qualV (s + 7) (h + 12) = qual s h := by
  have := intB_t hi
  have h60 := intB_60 (s := s) (h := h) (by omega) (by omega) (by omega) (by omega)
  rw [qualV_t (intB_mk (by rw [qual_7 hs]; omega)), qual_7 hs]
theorem qualV_back {s h : Int} (hi : intB s h = true) : qualV (backS s h) (backH s h) = qual s h := by
  rw [backS_t hi, backH_t hi, qualV_t (by rw [intB_neg]; exact hi), qual_neg]
theorem back_back {s h : Int} (hi : intB s h = true) : backS (-s) (-h) = s ∧ backH (-s) (-h) = h := by
  rw [backS_t (by rw [intB_neg]; exact hi), backH_t (by rw [intB_neg]; exact hi)]
  omega
theorem restB_t {s h : Int} (hr : restB s h = true) : intB s h = true ∧ 0 ≤ s ∧ s ≤ 7 ∧ intB (7 - s) (12 - h) = true := by
  unfold restB at hr
  rw [Bool.and_eq_true, Bool.and_eq_true] at hr
  have := inR_t hr.1.2
  exact ⟨hr.1.1, this.1, this.2, hr.2⟩
theorem rest_rest {s h : Int} (hr : restB s h = true) : restB (7 - s) (12 - h) = true ∧ restS (7 - s) (12 - h) = s ∧ restH (7 - s) (12 - h) = h := by
  obtain ⟨h1, h2, h3, h4⟩ := restB_t hr
  have e : restB (7 - s) (12 - h) = true := by
    unfold restB inR
    rw [h4, show 7 - (7 - s) = s from by omega, show 12 - (12 - h) = h from by omega, h1]
    simp only [Bool.and_true, Bool.true_and, decide_eq_true_eq]
    omega
  refine ⟨e, ?_, ?_⟩
  · rw [restS_t e]; omega
  · rw [restH_t e]; omega

end Go.Proofs.Ytojkbeffhjcaiaa

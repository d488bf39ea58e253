/- Contracts of IntervalOf, AddInterval and IntervalBack where the answer is known, and the plain facts beneath. Conditions: as stated. -/
import Derived.Test.YtojkbeffhjcaiaaIl
import Derived.Test.YtojkbeffhjcaiaaIc
import Derived.Test.YtojkbeffhjcaiaaId
namespace Go.Proofs.Ytojkbeffhjcaiaa
open Go.RowKit

/-- A pitch as a value. -/
def P3 (s a o : Int) : Value := .agg #[.int .i64 s, .int .i64 a, .int .i64 o]
theorem place_key {s a o : Int} (h : pitchB s a o = true) : 0 ≤ placeV s a o ∧ placeV s a o % 7 = s ∧ placeV s a o / 7 = o ∧ keyV s a o - natu (placeV s a o) = a := by
  have hb := pitchB_t h
  rw [placeV_t h, keyV_t h, natu_of s o (by omega) (by omega)]
  omega
theorem pwB_of {s a o : Int} (h : pitchB s a o = true) : pwB (placeV s a o) (keyV s a o) = true := by
  obtain ⟨h0, h1, h2, h3⟩ := place_key h
  unfold pwB
  rw [h1, h2, h3, h]
  simpa using h0
theorem ofX_t (x : Int) : ofX true x = x := rfl
theorem ofX_f (x : Int) : ofX false x = 0 := rfl
theorem addB_t {s a o x y : Int} (h : addB s a o x y = true) : pitchB s a o = true ∧ intB x y = true ∧ pwB (placeV s a o + x) (keyV s a o + y) = true := by
  unfold addB at h
  rw [Bool.and_eq_true, Bool.and_eq_true] at h
  exact ⟨h.1.1, h.1.2, h.2⟩
theorem ofB_t {s a o s' a' o' x y : Int} (h : ofB s a o s' a' o' x y = true) : pitchB s a o = true ∧ pitchB s' a' o' = true ∧ intB x y = true := by
  unfold ofB at h
  rw [Bool.and_eq_true, Bool.and_eq_true] at h
  exact ⟨h.1.1, h.1.2, h.2⟩
theorem pwB_t {pl k : Int} (h : pwB pl k = true) : 0 ≤ pl ∧ pitchB (pl % 7) (k - natu pl) (pl / 7) = true ∧ placeV (pl % 7) (k - natu pl) (pl / 7) = pl ∧ keyV (pl % 7) (k - natu pl) (pl / 7) = k := by
  unfold pwB at h
  rw [Bool.and_eq_true] at h
  have h0 : 0 ≤ pl := by simpa using h.1
  refine ⟨h0, h.2, ?_, ?_⟩
  · rw [placeV_t h.2]
    omega
  · rw [keyV_t h.2]
    unfold natu
    omega

/-- AddInterval from a pitch leads to this one, where the places and the keys say so. -/
theorem addC {s a o x y s' a' o' : Int} (h1 : pitchB s a o = true) (h2 : intB x y = true) (h3 : pitchB s' a' o' = true) (hx : placeV s a o + x = placeV s' a' o') (hy : keyV s a o + y = keyV s' a' o') (W : World) :
    Calls Try.prog 46 #[.agg #[.int .i64 s, .int .i64 a, .int .i64 o], .agg #[.int .i64 x, .int .i64 y]] W
      (Gives (.tuple #[.agg #[.int .i64 s', .int .i64 a', .int .i64 o'], .bool true]) W) := by
  have h := addInterval_any s a o x y W _ _ hx hy
  obtain ⟨e0, e1, e2, e3⟩ := place_key h3
  have eb : addB s a o x y = true := by
    unfold addB
    rw [h1, h2, hx, hy, pwB_of h3]
    rfl
  rw [eb, e1, e2, e3] at h
  exact h
theorem addF {s a o x y : Int} (h : addB s a o x y = false) (W : World) :
    Calls Try.prog 46 #[.agg #[.int .i64 s, .int .i64 a, .int .i64 o], .agg #[.int .i64 x, .int .i64 y]] W
      (Gives (.tuple #[.agg #[.int .i64 0, .int .i64 0, .int .i64 0], .bool false]) W) := by
  have g := addInterval_any s a o x y W _ _ rfl rfl
  rw [h] at g
  exact g
theorem specAddF {s a o x y : Int} (h : addB s a o x y = false) (W : World) :
    Calls Try.prog 47 #[.agg #[.int .i64 s, .int .i64 a, .int .i64 o], .agg #[.int .i64 x, .int .i64 y]] W
      (Gives (.tuple #[.agg #[.int .i64 0, .int .i64 0, .int .i64 0], .bool false]) W) := by
  have g := specAddInterval_any s a o x y W _ _ rfl rfl
  rw [h] at g
  exact g
theorem specAddC {s a o x y s' a' o' : Int} (h1 : pitchB s a o = true) (h2 : intB x y = true) (h3 : pitchB s' a' o' = true) (hx : placeV s a o + x = placeV s' a' o') (hy : keyV s a o + y = keyV s' a' o') (W : World) :
    Calls Try.prog 47 #[.agg #[.int .i64 s, .int .i64 a, .int .i64 o], .agg #[.int .i64 x, .int .i64 y]] W
      (Gives (.tuple #[.agg #[.int .i64 s', .int .i64 a', .int .i64 o'], .bool true]) W) := by
  have h := specAddInterval_any s a o x y W _ _ hx hy
  obtain ⟨e0, e1, e2, e3⟩ := place_key h3
  have eb : addB s a o x y = true := by
    unfold addB
    rw [h1, h2, hx, hy, pwB_of h3]
    rfl
  rw [eb, e1, e2, e3] at h
  exact h

end Go.Proofs.Ytojkbeffhjcaiaa

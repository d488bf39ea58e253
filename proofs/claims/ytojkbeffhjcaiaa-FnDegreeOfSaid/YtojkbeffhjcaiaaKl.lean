/- Plain facts on the alterations of keys: their sum, their signs, their neighbours. No condition. -/
import Derived.Test.YtojkbeffhjcaiaaKd
namespace Go.Proofs.Ytojkbeffhjcaiaa
open Go.RowKit

def altS (f : Int) : Nat → Int
  | 0 => 0
  | k + 1 => altS f k + altV f (k : Int)
theorem altS_succ (f : Int) (k : Nat) : altS f k + altV f (k : Int) = altS f (k + 1) := rfl
theorem altS_bd (f : Int) (k : Nat) : -(k : Int) ≤ altS f k ∧ altS f k ≤ k := by
  induction k with
  | zero => simp [altS]
  | succ k ih =>
    have := altV_bd f (k : Int)
    rw [← altS_succ]
    omega
theorem altS_7 (f : Int) (h0 : -7 ≤ f) (h1 : f ≤ 7) : altS f 7 = f := by
  obtain rfl | rfl | rfl | rfl | rfl | rfl | rfl | rfl | rfl | rfl | rfl | rfl | rfl | rfl | rfl : f = -7 ∨ f = -6 ∨ f = -5 ∨ f = -4 ∨ f = -3 ∨ f = -2 ∨ f = -1 ∨ f = 0 ∨ f = 1 ∨ f = 2 ∨ f = 3 ∨ f = 4 ∨ f = 5 ∨ f = 6 ∨ f = 7 := by omega
  all_goals rfl
theorem pos_bd (s : Int) : 0 ≤ pos s ∧ pos s ≤ 6 := by
  unfold pos
  repeat' (first | omega | split)
theorem alt_sgn (f s : Int) (h0 : -8 ≤ f) (h1 : f ≤ 8) : 0 ≤ alt f s * f ∧ alt f s * f ≤ 8 := by
  have := pos_bd s
  unfold alt
  split
  · omega
  · split <;> omega
theorem altV_sgn (f s : Int) (h0 : -8 ≤ f) (h1 : f ≤ 8) : 0 ≤ altV f s * f ∧ altV f s * f ≤ 8 := by
  unfold altV
  split
  · exact alt_sgn f s h0 h1
  · omega
theorem alt_near (f s : Int) : 0 ≤ alt (f + 1) s - alt f s ∧ alt (f + 1) s - alt f s ≤ 1 := by
  have := pos_bd s
  unfold alt
  split <;> split <;> (try split) <;> (try split) <;> omega
theorem altV_near (f s : Int) (h0 : -7 ≤ f) (h1 : f ≤ 6) (h2 : 0 ≤ s) (h3 : s ≤ 6) : 0 ≤ altV (f + 1) s - altV f s ∧ altV (f + 1) s - altV f s ≤ 1 := by
  rw [altV_t (keyB_mk (by omega)), altV_t (keyB_mk (by omega))]
  exact alt_near f s

end Go.Proofs.Ytojkbeffhjcaiaa

/- The walks of the readers of texts of pitches, of the program and of the reference. No condition. -/
import Derived.Test.YtgogpjlemaajeaaPt
import Derived.Deep.QuietTactic
import Derived.BigQuiet
namespace Go.Proofs.Ytgogpjlemaajeaa
open Go.RowKit

def idx (c : UInt8) : Int := Lib.indexByte [67, 68, 69, 70, 71, 65, 66] c
def rS (l : List UInt8) : Int := idx (l.headD 0)
def rA (l : List UInt8) : Int := (Lib.countByte l.tail.dropLast 35 : Int) - Lib.countByte l.tail.dropLast 98
def rO (l : List UInt8) : Int := ((l.getLastD 0).toNat : Int) - 48
def rB (l : List UInt8) : Bool := decide (2 ≤ l.length ∧ l.length ≤ 4) && (txtL (rS l) (rA l) (rO l) == l)
def rX (b : Bool) (v : Int) : Int := if b then v else 0
def rV (l : List UInt8) : Value := .tuple #[.agg #[.int .i64 (rX (rB l) (rS l)), .int .i64 (rX (rB l) (rA l)), .int .i64 (rX (rB l) (rO l))], .bool (rB l)]

theorem rV_no (l : List UInt8) (h : rB l = false) : rV l = .tuple #[.agg #[.int .i64 0, .int .i64 0, .int .i64 0], .bool false] := by
  unfold rV
  rw [h]
  rfl
theorem rV_yes (l : List UInt8) (h : rB l = true) : rV l = .tuple #[.agg #[.int .i64 (rS l), .int .i64 (rA l), .int .i64 (rO l)], .bool true] := by
  unfold rV
  rw [h]
  rfl
theorem rB_len (l : List UInt8) (h : ¬ (2 ≤ l.length ∧ l.length ≤ 4)) : rB l = false := by
  unfold rB
  rw [decide_eq_false h]
  rfl
theorem rB_at (l : List UInt8) (h : 2 ≤ l.length ∧ l.length ≤ 4) (s a o : Int) (hs : rS l = s) (ha : rA l = a) (ho : rO l = o) : rB l = (txtL s a o == l) := by
  subst hs ha ho
  unfold rB
  rw [decide_eq_true h]
  rfl
theorem S_inj (l m : List UInt8) (h : S l = S m) : l = m := by
  unfold S at h
  injection h with h
  simpa using h

theorem idx_ltr (s : Int) (h0 : 0 ≤ s) (h6 : s ≤ 6) : idx (ltr s) = s := by
  obtain rfl | rfl | rfl | rfl | rfl | rfl | rfl : s = 0 ∨ s = 1 ∨ s = 2 ∨ s = 3 ∨ s = 4 ∨ s = 5 ∨ s = 6 := by omega
  all_goals rfl
theorem dgt_at (o : Int) (h0 : 0 ≤ o) (h8 : o ≤ 8) : ((dgt o).toNat : Int) - 48 = o := by
  obtain rfl | rfl | rfl | rfl | rfl | rfl | rfl | rfl | rfl : o = 0 ∨ o = 1 ∨ o = 2 ∨ o = 3 ∨ o = 4 ∨ o = 5 ∨ o = 6 ∨ o = 7 ∨ o = 8 := by omega
  all_goals rfl
/-- The decoding of a pitch's text gives the pitch back. -/
theorem dec_txt (s a o : Int) (h : pitchB s a o = true) : (2 ≤ (txt s a o).length ∧ (txt s a o).length ≤ 4) ∧ rS (txt s a o) = s ∧ rA (txt s a o) = a ∧ rO (txt s a o) = o := by
  obtain ⟨h0, h6, ha, ha', ho, ho'⟩ := pitchB_t h
  have e1 := idx_ltr s h0 h6
  have e2 := dgt_at o ho ho'
  obtain rfl | rfl | rfl | rfl | rfl : a = -2 ∨ a = -1 ∨ a = 0 ∨ a = 1 ∨ a = 2 := by omega
  all_goals exact ⟨⟨by simp [txt], by simp [txt]⟩, e1, rfl, e2⟩

end Go.Proofs.Ytgogpjlemaajeaa

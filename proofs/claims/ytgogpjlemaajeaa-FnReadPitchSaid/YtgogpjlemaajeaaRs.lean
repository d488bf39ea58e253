/- The walk of the reference's reader of texts of pitches, and the plain law that it reads as the program's. Condition: the string is no longer than any machine allows. -/
import Derived.Test.YtgogpjlemaajeaaRg
import Derived.LoopTactic
import Derived.RegionTactic
import Derived.BigRegion
namespace Go.Proofs.Ytgogpjlemaajeaa
open Go.RowKit

/-- The letters' bytes. -/
def lit : Nat → Int
  | 0 => 67
  | 1 => 68
  | 2 => 69
  | 3 => 70
  | 4 => 71
  | 5 => 65
  | _ => 66
/-- The step that the first loop has found. -/
def stp (c : Int) : Nat → Int
  | 0 => -1
  | k + 1 => if (lit k == c) = true then (k : Int) else stp c k
theorem stp_bd (c : Int) : ∀ k : Nat, -1 ≤ stp c k ∧ stp c k ≤ k
  | 0 => by
    unfold stp
    omega
  | k + 1 => by
    have := stp_bd c k
    unfold stp
    split <;> omega
theorem stp_yes {c : Int} {k : Nat} (h : (lit k == c) = true) : stp c (k + 1) = k := by
  unfold stp
  rw [if_pos h]
theorem stp_no {c : Int} {k : Nat} (h : (lit k == c) = false) : stp c (k + 1) = stp c k := by
  show (if (lit k == c) = true then (k : Int) else stp c k) = _
  rw [if_neg (by rw [h]; exact Bool.false_ne_true)]
theorem stp_idx (c : UInt8) : stp (c.toNat : Int) 7 = idx c := by
  have key : ∀ i : Fin 256, stp ((UInt8.ofNat i.val).toNat : Int) 7 = idx (UInt8.ofNat i.val) := by decide +kernel
  have := key ⟨c.toNat, c.toNat_lt⟩
  simpa using this

/-- What the second loop makes of one byte. -/
def sgn (p : Int × Int) (c : UInt8) : Int × Int := if ((c.toNat : Int) == 35) = true then (p.1 + 1, p.2) else if ((c.toNat : Int) == 98) = true then (p.1 - 1, p.2) else (p.1, (c.toNat : Int) - 48)
def FA (m : List UInt8) : Int × Int := m.foldl sgn (0, 0)
theorem FA_snoc (m : List UInt8) (c : UInt8) : FA (m ++ [c]) = sgn (FA m) c := by
  unfold FA
  rw [List.foldl_append]
  rfl
theorem FA_bd (p : Int × Int) : ∀ m : List UInt8, p.1 - m.length ≤ (m.foldl sgn p).1 ∧ (m.foldl sgn p).1 ≤ p.1 + m.length
  | [] => by simp
  | c :: m => by
    have h := FA_bd (sgn p c) m
    have h1 : p.1 - 1 ≤ (sgn p c).1 ∧ (sgn p c).1 ≤ p.1 + 1 := by
      unfold sgn
      split
      · show p.1 - 1 ≤ p.1 + 1 ∧ p.1 + 1 ≤ p.1 + 1
        omega
      · split
        · show p.1 - 1 ≤ p.1 - 1 ∧ p.1 - 1 ≤ p.1 + 1
          omega
        · show p.1 - 1 ≤ p.1 ∧ p.1 ≤ p.1 + 1
          omega
    rw [List.foldl_cons, List.length_cons]
    omega
theorem sgn_up {p : Int × Int} {c : UInt8} (h : ((c.toNat : Int) == 35) = true) : sgn p c = (p.1 + 1, p.2) := by
  unfold sgn
  rw [if_pos h]
theorem sgn_dn {p : Int × Int} {c : UInt8} (h : ((c.toNat : Int) == 35) = false) (h2 : ((c.toNat : Int) == 98) = true) : sgn p c = (p.1 - 1, p.2) := by
  unfold sgn
  rw [if_neg (by rw [h]; exact Bool.false_ne_true), if_pos h2]
theorem sgn_oc {p : Int × Int} {c : UInt8} (h : ((c.toNat : Int) == 35) = false) (h2 : ((c.toNat : Int) == 98) = false) : sgn p c = (p.1, (c.toNat : Int) - 48) := by
  unfold sgn
  rw [if_neg (by rw [h]; exact Bool.false_ne_true), if_neg (by rw [h2]; exact Bool.false_ne_true)]

/-- What the reference spells out of the bytes. -/
def dA (l : List UInt8) : Int := (FA (l.tail.take 4)).1
def dO (l : List UInt8) : Int := (FA (l.tail.take 4)).2
theorem dec2_txt (s a o : Int) (h : pitchB s a o = true) : dA (txt s a o) = a ∧ dO (txt s a o) = o := by
  obtain ⟨h0, h6, ha, ha', ho, ho'⟩ := pitchB_t h
  obtain rfl | rfl | rfl | rfl | rfl : a = -2 ∨ a = -1 ∨ a = 0 ∨ a = 1 ∨ a = 2 := by omega
  all_goals
    obtain rfl | rfl | rfl | rfl | rfl | rfl | rfl | rfl | rfl : o = 0 ∨ o = 1 ∨ o = 2 ∨ o = 3 ∨ o = 4 ∨ o = 5 ∨ o = 6 ∨ o = 7 ∨ o = 8 := by omega
    all_goals exact ⟨rfl, rfl⟩
theorem txtL_yes {s a o : Int} {l : List UInt8} (h : txtL s a o = l) (hl : l ≠ []) : pitchB s a o = true ∧ l = txt s a o := by
  unfold txtL at h
  cases hp : pitchB s a o
  · rw [hp] at h
    exact absurd h.symm hl
  · rw [hp] at h
    exact ⟨rfl, h.symm⟩
/-- The reference spells a pitch whose text is the string exactly where the program does, and the same one. -/
theorem dec2_rd (l : List UInt8) (hl : l ≠ []) : rdV (txtL (rS l) (dA l) (dO l) == l) (rS l) (dA l) (dO l) = rV l := by
  rw [rV_rd]
  cases hb : rB l
  · cases h2 : (txtL (rS l) (dA l) (dO l) == l)
    · rfl
    · exfalso
      obtain ⟨hp, e⟩ := txtL_yes (by simpa using h2) hl
      generalize rS l = s at *
      generalize dA l = a at *
      generalize dO l = o at *
      subst e
      obtain ⟨hz, e1, e2, e3⟩ := dec_txt s a o hp
      rw [rB_at _ hz s a o e1 e2 e3] at hb
      rw [hb] at h2
      cases h2
  · have hz : 2 ≤ l.length ∧ l.length ≤ 4 := by
      by_cases hz : 2 ≤ l.length ∧ l.length ≤ 4
      · exact hz
      · rw [rB_len l hz] at hb
        cases hb
    have hb2 := hb
    rw [rB_at l hz _ _ _ rfl rfl rfl] at hb2
    obtain ⟨hp, e⟩ := txtL_yes (by simpa using hb2) hl
    generalize rA l = a at *
    generalize rO l = o at *
    generalize rS l = s at *
    subst e
    obtain ⟨e1, e2⟩ := dec2_txt s a o hp
    rw [e1, e2, hb2]
theorem rV_nil : rV [] = rdV false 0 0 0 := rfl

end Go.Proofs.Ytgogpjlemaajeaa

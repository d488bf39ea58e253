/- Plain facts on spelled keys. No condition. -/
import Derived.Test.YtgogpjlemaajeaaSl
namespace Go.Proofs.Ytgogpjlemaajeaa
open Go.RowKit

theorem sk_nat {key : Int} (b : Bool) (h : inR key 0 107 = true) (hn : 0 ≤ nst (key % 12)) : skA key b = 0 ∧ skS key b = nst (key % 12) := by
  obtain ⟨e1, e2, e3⟩ := sk_t b h
  obtain ⟨g1, g2⟩ := spS_nat b hn
  exact ⟨e2.trans g2, e1.trans g1⟩
theorem sk_alt {key : Int} (b : Bool) (h : inR key 0 107 = true) (hn : ¬ 0 ≤ nst (key % 12)) : skA key b = sgn b := by
  obtain ⟨e1, e2, e3⟩ := sk_t b h
  exact e2.trans (spA_alt b hn)
theorem sk_key {key : Int} (b : Bool) (h : inR key 0 107 = true) : keyV (skS key b) (skA key b) (skO key) = key := by
  obtain ⟨e1, e2, e3⟩ := sk_t b h
  obtain ⟨k0, k1⟩ := inR_t h
  rw [e1, e2, e3]
  have r0 : 0 ≤ key % 12 := by omega
  have r1 : key % 12 ≤ 11 := by omega
  by_cases hn : 0 ≤ nst (key % 12)
  · obtain ⟨n0, n1, n2⟩ := nst_nat r0 r1 hn
    obtain ⟨g1, g2⟩ := spS_nat b hn
    rw [g1, g2, keyV_t (pitchB_mk (by omega))]
    omega
  · obtain ⟨n0, n1, n2⟩ := nst_alt b r0 r1 hn
    rw [spA_alt b hn]
    have hs : sgn b = 1 ∨ sgn b = -1 := by cases b <;> simp [sgn]
    rw [keyV_t (pitchB_mk (by omega))]
    omega

end Go.Proofs.Ytgogpjlemaajeaa

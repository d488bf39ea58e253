/- How a slice of bytes that came in lies in memory, and what a law over a code knows of it. No condition. -/
import Derived.Test.YtgogpjlemaajeaaDr
import Derived.ChangeSlices
namespace Go.Proofs.Ytgogpjlemaajeaa
open Go.ChangeShapes Go.WideShapes Go.ChangeAt Go.RowKit

theorem bc_u8 : Try.prog.cellsOf 5 = 1 := by kernel_rfl

/-- What a law over a code knows of it. -/
def Code' (w : World) (a : Option Addr) (len cap : Nat) : Prop := Bytes w w.heap.size a len ∧ len ≤ cap ∧ cap ≤ maxLen

theorem spotless {w : World} {a : Addr} {v : Value} (h : w.cell? a = some v) : a = ⟨a.block, a.off, none⟩ ∧ a.block < w.heap.size := by
  obtain ⟨b, o, s⟩ := a
  unfold World.cell? at h
  split at h
  · rename_i c t f hb
    have hlt := (Array.getElem?_eq_some_iff.1 hb).1
    cases s
    · exact ⟨rfl, hlt⟩
    · simp at h
  · cases h

theorem bytes_open {H : Type} {enc : TypeId × Value → H} {w : World} {a : Option Addr} {len cap : Nat} {d : DataW H} {p : List MemPlace}
    (h : DataW.Trod enc Try.prog w 0 (fun _ => true) true 36 (.slice a len cap) d p) : Code' w a len cap := by
  obtain ⟨fuel, hf⟩ := h
  rcases open_ints Try.underlying36 Try.underlying5 bc_u8 hf with ⟨hcs, hx⟩ | ⟨a', len', cap', zs, hcs, _, hl, hm, hz, hx, hcell, hwz⟩
  · simp [Value.cells] at hcs
    obtain ⟨rfl, rfl, rfl⟩ := hcs
    exact ⟨fun h0 => absurd h0 (Nat.lt_irrefl 0), Nat.le_refl _, by unfold maxLen; omega⟩
  · simp [Value.cells] at hcs
    obtain ⟨rfl, rfl, rfl⟩ := hcs
    simp at hz
    refine ⟨fun h0 => ?_, hl, hm⟩
    have k0 := hcell 0 (by omega)
    have e : a'.add 0 = a' := rfl
    rw [e] at k0
    obtain ⟨ea, hlt⟩ := spotless k0
    refine ⟨a'.block, a'.off, by rw [← ea], hlt, fun i hi => ?_⟩
    have hi' : i < zs.length := by omega
    have ki := hcell i hi'
    have hw := hwz (zs.getD i 0) (by rw [List.getD_eq_getElem?_getD, List.getElem?_eq_getElem hi']; exact List.getElem_mem _)
    simp only [Lit.wf, Bool.and_eq_true, decide_eq_true_eq] at hw
    have e0 : IntKind.u8.min = 0 := rfl
    have e1 : IntKind.u8.max = 255 := rfl
    rw [e0, e1] at hw
    refine ⟨zs.getD i 0, ?_, ?_, ?_⟩
    · rw [← ki]
      congr 1
      unfold Addr.add
      split
      · rename_i hi0
        subst hi0
        exact ea.symm
      · rfl
    · exact hw.1
    · exact hw.2

theorem Code'.open {w : World} {a : Option Addr} {len cap : Nat} (h : Code' w a len cap) : Bytes w w.heap.size a len := h.1
theorem Code'.below {w w' : World} {a : Option Addr} {len cap : Nat} (h : Code' w a len cap) (hb : Below w.heap.size w w') : Code' w' a len cap :=
  ⟨fun h0 => by
    obtain ⟨b, off, e, hl, hz⟩ := h.1 h0
    have hs := hb.size
    refine ⟨b, off, e, by omega, fun i hi => ?_⟩
    obtain ⟨z, hc, hz⟩ := hz i hi
    exact ⟨z, (hb.cell (p := ⟨b, off + i, none⟩) hl).trans hc, hz⟩, h.2⟩

end Go.Proofs.Ytgogpjlemaajeaa

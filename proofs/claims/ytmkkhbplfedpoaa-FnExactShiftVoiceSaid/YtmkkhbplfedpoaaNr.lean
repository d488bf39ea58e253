/- How a slice of notes that came in lies in memory: it is a voice. No condition. -/
import Derived.Test.YtmkkhbplfedpoaaNo
import Derived.Test.YtmkkhbplfedpoaaNoteOpen
import Derived.Test.YtmkkhbplfedpoaaBytes
import Derived.Deep.Slices
namespace Go.Proofs.Ytmkkhbplfedpoaa
open Go.ChangeShapes Go.WideShapes Go.ChangeAt Go.RowKit Go.Deep

theorem list_of {α : Type} {Q : Nat → α → Prop} : ∀ n : Nat, (∀ i, i < n → ∃ x, Q i x) → ∃ l : List α, l.length = n ∧ ∀ i x, l[i]? = some x → Q i x
  | 0, _ => ⟨[], rfl, fun i x h => by simp at h⟩
  | n + 1, h => by
    obtain ⟨l, hl, hq⟩ := list_of n (fun i hi => h i (by omega))
    obtain ⟨x, hx⟩ := h n (by omega)
    refine ⟨l ++ [x], by simp [hl], fun i y hy => ?_⟩
    by_cases hi : i < n
    · rw [List.getElem?_append_left (by omega)] at hy
      exact hq i y hy
    · rw [List.getElem?_append_right (by omega)] at hy
      have : i - l.length = 0 := by
        rcases Nat.eq_zero_or_pos (i - l.length) with h0 | h0
        · exact h0
        · rw [List.getElem?_eq_none (by simp; omega)] at hy
          cases hy
      rw [this] at hy
      simp at hy
      subst hy
      obtain rfl : i = n := by omega
      exact hx

/-- A voice that came in. -/
def Came (w : World) (a : Option Addr) (len cap : Nat) (xs : List (Bool × Int × Int × Int × Int × Bool)) : Prop := xs.length = len ∧ Voice w a xs ∧ len ≤ cap ∧ cap ≤ maxLen

theorem notes_open {H : Type} {enc : TypeId × Value → H} {w : World} {a : Option Addr} {len cap : Nat} {d : DataW H} {p : List MemPlace}
    (h : DataW.Trod enc Try.prog w 0 (fun _ => true) true 32 (.slice a len cap) d p) : ∃ xs, Came w a len cap xs := by
  obtain ⟨fuel, hf⟩ := h
  rcases open_slice Try.underlying32 hf with ⟨hcs, hx⟩ | ⟨a', len', cap', m, n, D, Pl, hcs, _, hl, hm, hmm, hx, hcell⟩
  · simp [Value.cells] at hcs
    obtain ⟨rfl, rfl, rfl⟩ := hcs
    exact ⟨[], rfl, Sees.none _ _ _, Nat.le_refl _, by unfold maxLen; omega⟩
  · simp [Value.cells] at hcs
    obtain ⟨rfl, rfl, rfl⟩ := hcs
    simp at hmm
    rw [nc_note] at hcell
    have key : ∀ i, i < len → ∃ x : Bool × Int × Int × Int × Int × Bool, w.cell? (a'.add (i * 6)) = some (.bool x.1) ∧ ∀ j, j < 6 → w.cell? ((a'.add (i * 6)).add j) = ([.bool x.1, .int .i64 x.2.1, .int .i64 x.2.2.1, .int .i64 x.2.2.2.1, .int .i64 x.2.2.2.2.1, .bool x.2.2.2.2.2] : List Value)[j]? := fun i hi => by
      obtain ⟨cs', hc, ht⟩ := hcell i (by omega)
      obtain ⟨r, s, x, o, t, d, rfl, -⟩ := note_cells ht
      obtain ⟨_, _, h3⟩ := World.cells?_some hc
      exact ⟨(r, s, x, o, t, d), h3 0 (by omega), fun j hj => h3 j hj⟩
    obtain ⟨xs, hxl, hxs⟩ := list_of len key
    refine ⟨xs, hxl, fun h0 => ?_, hl, hm⟩
    obtain ⟨x0, hx0⟩ := nth (xs := xs) (k := 0) (by omega)
    have hz := (hxs 0 x0 hx0).1
    have e0 : a'.add (0 * 6) = a' := rfl
    rw [e0] at hz
    obtain ⟨ea, hlt⟩ := spotless hz
    refine ⟨a'.block, a'.off, by rw [← ea], fun i hi => ?_⟩
    obtain ⟨⟨r, s, x, o, t, d⟩, hxi⟩ := nth (xs := xs) (k := i / 6) (by omega)
    have hj := (hxs (i / 6) _ hxi).2 (i % 6) (by omega)
    have ad : (a'.add (i / 6 * 6)).add (i % 6) = ⟨a'.block, a'.off + i, none⟩ := by
      rw [ea]
      unfold Addr.add
      by_cases h1 : i / 6 * 6 = 0 <;> by_cases h2 : i % 6 = 0
      · simp [h1, h2]; omega
      · simp [h1, h2]; omega
      · simp [h1, h2]; omega
      · simp [h1, h2]; omega
    rw [ad] at hj
    rw [hj]
    unfold nc
    rw [hxi]
    have h6 : i % 6 = 0 ∨ i % 6 = 1 ∨ i % 6 = 2 ∨ i % 6 = 3 ∨ i % 6 = 4 ∨ i % 6 = 5 := by omega
    rcases h6 with e | e | e | e | e | e <;> simp [e]

end Go.Proofs.Ytmkkhbplfedpoaa

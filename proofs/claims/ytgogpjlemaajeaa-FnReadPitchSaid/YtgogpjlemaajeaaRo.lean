/- Rows of cells: what a slice sees, what a call's own slice owns, and the small steps. No condition. -/
import Derived.Test.YtgogpjlemaajeaaPb
import Derived.Test.YtgogpjlemaajeaaKitb
import Derived.LoopTactic
import Derived.Deep.AppendLies
namespace Go.Proofs.Ytgogpjlemaajeaa
open Go.RowKit

/-- The first N cells from address a on hold c. -/
def Sees (w : World) (a : Option Addr) (N : Nat) (c : Nat → Value) : Prop :=
  0 < N → ∃ g off, a = some ⟨g, off, none⟩ ∧ ∀ i, i < N → w.cell? ⟨g, off + i, none⟩ = some (c i)
/-- .. in a block of its own, from B on, not frozen. -/
def Owns (w : World) (B : Nat) (a : Option Addr) (N : Nat) (c : Nat → Value) : Prop :=
  0 < N → ∃ g off, a = some ⟨g, off, none⟩ ∧ B ≤ g ∧ ∀ i, i < N → w.cell? ⟨g, off + i, none⟩ = some (c i) ∧ w.frozen? ⟨g, off + i, none⟩ = false

theorem cell_lt {w : World} {b o : Nat} {v : Value} (h : w.cell? ⟨b, o, none⟩ = some v) : b < w.heap.size := by
  unfold World.cell? at h
  split at h
  · rename_i c t f hb
    exact (Array.getElem?_eq_some_iff.1 hb).1
  · cases h
theorem Owns.sees {w : World} {B : Nat} {a : Option Addr} {N : Nat} {c : Nat → Value} (h : Owns w B a N c) : Sees w a N c := fun h0 => by
  obtain ⟨g, off, e, _, hc⟩ := h h0
  exact ⟨g, off, e, fun i hi => (hc i hi).1⟩
theorem Sees.pure {w w' : World} {a : Option Addr} {N : Nat} {c : Nat → Value} (h : Sees w a N c) (hb : Below w.heap.size w w') : Sees w' a N c := fun h0 => by
  obtain ⟨g, off, e, hc⟩ := h h0
  exact ⟨g, off, e, fun i hi => (hb.cell (p := ⟨g, off + i, none⟩) (cell_lt (hc i hi))).trans (hc i hi)⟩
theorem Owns.pure {w w' : World} {B : Nat} {a : Option Addr} {N : Nat} {c : Nat → Value} (h : Owns w B a N c) (hb : Below w.heap.size w w') : Owns w' B a N c := fun h0 => by
  obtain ⟨g, off, e, h1, hc⟩ := h h0
  exact ⟨g, off, e, h1, fun i hi => ⟨(hb.cell (p := ⟨g, off + i, none⟩) (cell_lt (hc i hi).1)).trans (hc i hi).1, (hb.frozen (p := ⟨g, off + i, none⟩) (cell_lt (hc i hi).1)).trans (hc i hi).2⟩⟩
theorem Sees.none (w : World) (a : Option Addr) (c : Nat → Value) : Sees w a 0 c := fun h => absurd h (Nat.lt_irrefl 0)
theorem Owns.none (w : World) (B : Nat) (a : Option Addr) (c : Nat → Value) : Owns w B a 0 c := fun h => absurd h (Nat.lt_irrefl 0)
theorem Sees.congr {w : World} {a : Option Addr} {N : Nat} {c c' : Nat → Value} (h : Sees w a N c) (hc : ∀ i, i < N → c i = c' i) : Sees w a N c' := fun h0 => by
  obtain ⟨g, off, e, hs⟩ := h h0
  exact ⟨g, off, e, fun i hi => by rw [hs i hi, hc i hi]⟩

/-- The first N values of c. -/
def rowL (c : Nat → Value) (N : Nat) : List Value := (List.range N).map c
theorem rowL_get {c : Nat → Value} {N i : Nat} (h : i < N) : (rowL c N)[i]? = some (c i) := by simp [rowL, h]
theorem rowL_len (c : Nat → Value) (N : Nat) : (rowL c N).length = N := by simp [rowL]
theorem rowL_0 (c : Nat → Value) : rowL c 0 = [] := rfl
theorem rowL_1 (c : Nat → Value) (N : Nat) : rowL c (N + 1) = rowL c N ++ [c N] := by simp [rowL, List.range_succ]
theorem rowL_3 (c : Nat → Value) (N : Nat) : rowL c (N + 3) = rowL c N ++ [c N, c (N + 1), c (N + 2)] := by
  rw [show N + 3 = N + 2 + 1 from rfl, rowL_1, rowL_1, rowL_1]
  simp
theorem rowL_6 (c : Nat → Value) (N : Nat) : rowL c (N + 6) = rowL c N ++ [c N, c (N + 1), c (N + 2), c (N + 3), c (N + 4), c (N + 5)] := by
  rw [show N + 6 = N + 3 + 3 from rfl, rowL_3, rowL_3]
  simp
theorem rowL_congr {c c' : Nat → Value} {N : Nat} (h : ∀ i, i < N → c i = c' i) : rowL c N = rowL c' N := by
  unfold rowL
  exact List.map_congr_left fun i hi => h i (by simpa using hi)

theorem grown_of_below {a w : World} (h : Below a.heap.size a w) (row : Option Nat) : a.grownBy w row := ⟨h.os, h.tape, h.output, h.size, fun i hi _ => h.block i hi⟩
theorem row_pure {w w' : World} {B : Nat} {e : TypeId} {size n : Nat} {v : Value} {xs : List Value} (h : w.ownsRow B e size v n xs) (hb : Below w.heap.size w w') : w'.ownsRow B e size v n xs :=
  h.kept (grown_of_below hb none) (by cases hv : v.ownBlock <;> simp)
/-- Behind an append to a row of the walk's own: below B nothing has turned. -/
theorem below_append {w W W1 : World} {B : Nat} {o : Obj} {row : Option Nat} (hB : Below B w W) (hs : B ≤ W.heap.size) (hg : (W.alloc o).grownBy W1 row) (hr : ∀ k, row = some k → B ≤ k) : Below B w W1 :=
  ⟨hg.os.trans hB.os, hg.tape.trans hB.tape, hg.output.trans hB.output, Nat.le_trans hB.size (Nat.le_trans (by simp) hg.size), fun i hi =>
    ((hg.block i (by simp; omega) (fun e => by have := hr i e.symm; omega)).trans (Below.heap_alloc W o i (by omega))).trans (hB.block i hi)⟩

/-- What an own row is good for. -/
theorem owns_of_row {w : World} {B : Nat} {e : TypeId} {size n : Nat} {v : Value} {c : Nat → Value} (h : w.ownsRow B e size v n (rowL c (n * size))) :
    ∃ a cap, v = .slice a n cap ∧ n ≤ cap ∧ cap ≤ maxLen ∧ Owns w B a (n * size) c := by
  rcases h.2 with ⟨rfl, rfl⟩ | ⟨g, cap, cur, rfl, hb, hg, hn, hm, hs, ht⟩
  · exact ⟨none, 0, rfl, Nat.le_refl _, by unfold maxLen; omega, by rw [Nat.zero_mul]; exact Owns.none _ _ _ _⟩
  · refine ⟨some ⟨g, 0, none⟩, cap, rfl, hn, hm, fun h0 => ⟨g, 0, rfl, hb, fun i hi => ⟨?_, ?_⟩⟩⟩
    · rw [Nat.zero_add, cell_of_row w g i cur e (0, 0) hg]
      have h1 : (cur.toList.take (n * size))[i]? = some (c i) := by rw [ht]; exact rowL_get hi
      rw [List.getElem?_take_of_lt hi] at h1
      simpa using h1
    · simp [World.frozen?, hg]

/-- A row that is being filled from its head on. -/
def FillC (w : World) (g N j : Nat) (c : Nat → Value) : Prop := ∀ i, i < N → (∃ v, w.cell? ⟨g, i, none⟩ = some v ∧ (i < j → v = c i)) ∧ w.frozen? ⟨g, i, none⟩ = false
theorem FillC.step {w : World} {g N j : Nat} {c : Nat → Value} (h : FillC w g N j c) : FillC (w.setCell ⟨g, j, none⟩ (c j)) g N (j + 1) c := fun i hi => by
  obtain ⟨⟨v, hv, hj⟩, hf⟩ := h i hi
  refine ⟨?_, by simpa using hf⟩
  by_cases hij : i = j
  · subst hij
    exact ⟨c i, by simp [go_sem, hv], fun _ => rfl⟩
  · exact ⟨v, (World.cell?_setCell_other _ _ _ _ (fun e => hij (by injection e; omega))).trans hv, fun hlt => hj (by omega)⟩
theorem FillC.pure {w w' : World} {g N j : Nat} {c : Nat → Value} (h : FillC w g N j c) (hb : Below w.heap.size w w') : FillC w' g N j c := fun i hi => by
  obtain ⟨⟨v, hv, hj⟩, hf⟩ := h i hi
  exact ⟨⟨v, (hb.cell (p := ⟨g, i, none⟩) (cell_lt hv)).trans hv, hj⟩, (hb.frozen (p := ⟨g, i, none⟩) (cell_lt hv)).trans hf⟩
theorem FillC.done {w : World} {B g N : Nat} {c : Nat → Value} (h : FillC w g N N c) (hB : B ≤ g) : Owns w B (some ⟨g, 0, none⟩) N c := fun _ =>
  ⟨g, 0, rfl, hB, fun i hi => by
    obtain ⟨⟨v, hv, hj⟩, hf⟩ := h i hi
    rw [Nat.zero_add]
    exact ⟨by rw [hv, hj hi], hf⟩⟩
theorem FillC.made (w : World) (cur : Array Value) (e : TypeId) {N : Nat} (hs : cur.size = N) (c : Nat → Value) : FillC (w.alloc (.cells cur e)) w.heap.size N 0 c := fun i hi => by
  have h1 : (w.alloc (.cells cur e)).heap[w.heap.size]? = some (.cells cur e (0, 0)) := heap_alloc_new w _
  refine ⟨⟨cur[i]'(by omega), ?_, fun h => absurd h (Nat.not_lt_zero _)⟩, ?_⟩
  · rw [cell_of_row _ _ i cur e (0, 0) h1]
    exact Array.getElem?_eq_getElem (by omega)
  · exact Blk.frozen (Blk.new w e cur) i

end Go.Proofs.Ytgogpjlemaajeaa

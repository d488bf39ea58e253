/- More small words for the walks: cells and blocks behind pure calls; the bounds of places and keys. No condition. -/
import Derived.Test.YtgogpjlemaajeaaPb
import Derived.Deep.DeepCutAuto
namespace Go.Proofs.Ytgogpjlemaajeaa
open Go.RowKit

theorem Blk.new' {W : World} {g : Nat} {t : TypeId} {cs : Array Value} (h : W.heap.size = g) : Blk (W.alloc (.cells cs t)) g t cs := by
  subst h
  exact Blk.new W t cs
theorem Blk.get {W : World} {g i : Nat} {t : TypeId} {cs : Array Value} {x : Value} (h : Blk W g t cs) (hx : cs[i]? = some x) : W.cell? ⟨g, i, none⟩ = some x := (h.cell i).trans hx
theorem Blk.new_pure {W w2 : World} {t : TypeId} {cs : Array Value} (hb : Below (W.alloc (.cells cs t)).heap.size (W.alloc (.cells cs t)) w2) : Blk w2 W.heap.size t cs := (Blk.new W t cs).pure hb
/-- A block that was there, behind a store into another one. -/
theorem Blk.ne {W : World} {g g' j : Nat} {t : TypeId} {cs : Array Value} (h : Blk W g t cs) (hp : g ≠ g') (u : Value) : Blk (W.setCell ⟨g', j, none⟩ u) g t cs := h.far hp u
theorem Blk.swap {W : World} {g : Nat} {t : TypeId} {cs : Array Value} {o o' : Obj} (h : Blk (W.alloc o) g t cs) (hg : g < W.heap.size) : Blk (W.alloc o') g t cs := by
  unfold Blk at h ⊢
  rw [Below.heap_alloc W o g hg] at h
  rw [Below.heap_alloc W o' g hg, h]
theorem below_swap {w W : World} {o o' : Obj} (h : Below w.heap.size w (W.alloc o)) (hg : w.heap.size ≤ W.heap.size) : Below w.heap.size w (W.alloc o') :=
  ⟨h.os, h.tape, h.output, by simp; omega, fun k hk => by
    have h1 := h.block k hk
    rw [Below.heap_alloc W o k (by omega)] at h1
    rw [Below.heap_alloc W o' k (by omega), h1]⟩
theorem Blk.undrew {W : World} {g : Nat} {t : TypeId} {cs : Array Value} (h : Blk W.drew g t cs) : Blk W g t cs := h
theorem below_undrew {B : Nat} {w W : World} (h : Below B w W.drew) : Below B w W := ⟨h.os, h.tape, h.output, h.size, h.block⟩
theorem Blk.new_pure_drew {W w2 : World} {t : TypeId} {cs : Array Value} (hb : Below (W.alloc (.cells cs t)).drew.heap.size (W.alloc (.cells cs t)).drew w2) : Blk w2 W.heap.size t cs := ((Blk.new W t cs).drew).pure hb
theorem Blk.put2 {W : World} {g : Nat} {t : TypeId} {a b x y : Value} (h : Blk W g t #[a, b]) : Blk ((W.setCell ⟨g, 0, none⟩ x).setCell ⟨g, 1, none⟩ y) g t #[x, y] := (h.set_ 0 x).set_ 1 y
theorem Blk.put3 {W : World} {g : Nat} {t : TypeId} {a b c x y z : Value} (h : Blk W g t #[a, b, c]) : Blk (((W.setCell ⟨g, 0, none⟩ x).setCell ⟨g, 1, none⟩ y).setCell ⟨g, 2, none⟩ z) g t #[x, y, z] := ((h.set_ 0 x).set_ 1 y).set_ 2 z
theorem cell_pure {W w2 : World} {P i : Nat} {x : Value} (hb : Below W.heap.size W w2) (h : P < W.heap.size) (hc : W.cell? ⟨P, i, none⟩ = some x) : w2.cell? ⟨P, i, none⟩ = some x :=
  (hb.cell (p := ⟨P, i, none⟩) h).trans hc
theorem size_pure {W w2 : World} {n : Nat} (hb : Below W.heap.size W w2) (h : n < W.heap.size) : n < w2.heap.size := Nat.lt_of_lt_of_le h hb.size
theorem cell_alloc {W : World} {P i : Nat} {x : Value} (o : Obj) (h : P < W.heap.size) (hc : W.cell? ⟨P, i, none⟩ = some x) : (W.alloc o).cell? ⟨P, i, none⟩ = some x :=
  (World.cell?_alloc_lt W o ⟨P, i, none⟩ h).trans hc
theorem cell_far {W : World} {P i g j : Nat} {x : Value} (u : Value) (h : P ≠ g) (hc : W.cell? ⟨P, i, none⟩ = some x) : (W.setCell ⟨g, j, none⟩ u).cell? ⟨P, i, none⟩ = some x :=
  (World.cell?_setCell_other W ⟨g, j, none⟩ ⟨P, i, none⟩ u (fun e => h (by injection e with e1; exact e1.symm))).trans hc
theorem placeV_bd (s a o : Int) : -1 ≤ placeV s a o ∧ placeV s a o ≤ 62 := by
  cases h : pitchB s a o
  · rw [placeV_f h]
    omega
  · rw [placeV_t h]
    have := pitchB_t h
    omega
theorem keyV_bd (s a o : Int) : -100 ≤ keyV s a o ∧ keyV s a o ≤ 109 := by
  cases h : pitchB s a o
  · rw [keyV_f h]
    omega
  · rw [keyV_t h]
    have := pitchB_t h
    have := half_bd s
    omega

end Go.Proofs.Ytgogpjlemaajeaa

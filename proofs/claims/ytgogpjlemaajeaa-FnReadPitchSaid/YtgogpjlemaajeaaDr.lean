/- The state of a draw: what a reader's picks have left, and the small steps of it. Conditions: the reader lies below the blocks that the draw makes. -/
import Derived.Test.YtgogpjlemaajeaaRe
namespace Go.Proofs.Ytgogpjlemaajeaa
open Go.RowKit

/-- From w to W nothing old has turned but the reader R, which has picked at most K times. -/
def Dr (w W : World) (R K : Nat) : Prop := w.grownBy W (some R) ∧ RdOk W R K ∧ R < w.heap.size
theorem Dr.start {w : World} {R K : Nat} (h : RdOk w R K) : Dr w w R K := ⟨World.grownBy.refl w _, h, h.lt⟩
theorem Dr.rd {w W : World} {R K : Nat} (h : Dr w W R K) : RdOk W R K := h.2.1
theorem Dr.size {w W : World} {R K : Nat} (h : Dr w W R K) : w.heap.size ≤ W.heap.size := h.1.size
theorem Dr.pick {w W w1 : World} {R K K' : Nat} (h : Dr w W R K) (hg : W.grownBy w1 (some R)) (hr : RdOk w1 R K') : Dr w w1 R K' := ⟨h.1.trans hg, hr, h.2.2⟩
theorem Dr.alloc {w W : World} {R K : Nat} (h : Dr w W R K) (o : Obj) : Dr w (W.alloc o) R K := ⟨only_alloc h.1 o, h.2.1.alloc o, h.2.2⟩
theorem Dr.drew {w W : World} {R K : Nat} (h : Dr w W R K) : Dr w W.drew R K := ⟨only_drew h.1, h.2.1, h.2.2⟩
theorem Dr.drewN {w W : World} {R K : Nat} (h : Dr w W R K) (n : Nat) : Dr w (W.drewN n) R K := ⟨only_drewN h.1 n, h.2.1, h.2.2⟩
theorem Dr.set_ {w W : World} {R K : Nat} (h : Dr w W R K) {p : Addr} (hp : w.heap.size ≤ p.block) (u : Value) : Dr w (W.setCell p u) R K :=
  ⟨only_setCell h.1 (.inr hp) u, h.2.1.setCell (by have := h.2.2; omega) u, h.2.2⟩
theorem Dr.mono {w W : World} {R K K' : Nat} (h : Dr w W R K) (hK : K ≤ K') : Dr w W R K' := ⟨h.1, h.2.1.mono hK, h.2.2⟩
theorem Dr.below {w W w1 : World} {R K : Nat} (h : Dr w W R K) (hb : Below W.heap.size W w1) : Dr w w1 R K :=
  ⟨h.1.trans (only_of_below hb _), h.2.1.below hb h.2.1.lt, h.2.2⟩
theorem Dr.undrew {w W : World} {R K : Nat} (h : Dr w W.drew R K) : Dr w W R K := ⟨⟨h.1.os, h.1.tape, h.1.output, h.1.size, h.1.block⟩, h.2.1, h.2.2⟩
/-- Out of a draw that opened its own reader nothing old has turned. -/
theorem Dr.whole {w0 w W : World} {R K : Nat} (h : Dr w W R K) (hb : Below w0.heap.size w0 w) (hR : w0.heap.size ≤ R) : Below w0.heap.size w0 W :=
  hb.trans (below_of_only h.1 hR h.2.2)

/-- What lies below the reader reads as before. -/
theorem Dr.old {w W : World} {R K : Nat} (h : Dr w W R K) : (∀ b o, b < R → W.cell? ⟨b, o, none⟩ = w.cell? ⟨b, o, none⟩) ∧ (∀ b o, b < R → W.frozen? ⟨b, o, none⟩ = w.frozen? ⟨b, o, none⟩) := by
  have hb : Below R w W := below_of_only h.1 (Nat.le_refl _) h.2.2
  exact ⟨fun b o hbR => hb.cell (p := ⟨b, o, none⟩) hbR, fun b o hbR => hb.frozen (p := ⟨b, o, none⟩) hbR⟩

theorem Dr.blk {w W : World} {R K g : Nat} {t : TypeId} {cs : Array Value} (h : Dr w W R K) (b : Blk w g t cs) (hg : g < R) : Blk W g t cs :=
  b.below (below_of_only h.1 (Nat.le_refl _) h.2.2) hg

/-- A pitch that is being drawn: block g holds it, the result's block is still zero. -/
def DP (w W : World) (R K g : Nat) (T : TypeId) : Prop :=
  ∃ s a o : Int, (-9 ≤ s ∧ s ≤ 9 ∧ -9 ≤ a ∧ a ≤ 9 ∧ -9 ≤ o ∧ o ≤ 9) ∧ Blk W g T #[.int .i64 s, .int .i64 a, .int .i64 o] ∧ w.heap.size < g ∧ Dr w W R K ∧ Blk W w.heap.size T #[.int .i64 0, .int .i64 0, .int .i64 0]
theorem DP.rd {w W : World} {R K g : Nat} {T : TypeId} (h : DP w W R K g T) : RdOk W R K := by
  obtain ⟨s, a, o, hb, h1, h2, h3, h4⟩ := h
  exact h3.rd
theorem DP.pick {w W w1 : World} {R K K' g : Nat} {T : TypeId} (h : DP w W R K g T) (hg : W.grownBy w1 (some R)) (hr : RdOk w1 R K') : DP w w1 R K' g T := by
  obtain ⟨s, a, o, hb, h1, h2, h3, h4⟩ := h
  have hR := h3.2.2
  exact ⟨s, a, o, hb, h1.grown hg (fun e => by injection e; omega), h2, h3.pick hg hr, h4.grown hg (fun e => by injection e; omega)⟩
theorem DP.alloc {w W : World} {R K g : Nat} {T : TypeId} (h : DP w W R K g T) (ob : Obj) : DP w (W.alloc ob) R K g T := by
  obtain ⟨s, a, o, hb, h1, h2, h3, h4⟩ := h
  exact ⟨s, a, o, hb, h1.alloc ob, h2, h3.alloc ob, h4.alloc ob⟩
theorem DP.drew {w W : World} {R K g : Nat} {T : TypeId} (h : DP w W R K g T) : DP w W.drew R K g T := by
  obtain ⟨s, a, o, hb, h1, h2, h3, h4⟩ := h
  exact ⟨s, a, o, hb, h1, h2, h3.drew, h4⟩
theorem DP.mono {w W : World} {R K K' g : Nat} {T : TypeId} (h : DP w W R K g T) (hK : K ≤ K') : DP w W R K' g T := by
  obtain ⟨s, a, o, hb, h1, h2, h3, h4⟩ := h
  exact ⟨s, a, o, hb, h1, h2, h3.mono hK, h4⟩
theorem DP.set0 {w W : World} {R K g : Nat} {T : TypeId} (h : DP w W R K g T) (x : Int) (hx : -9 ≤ x) (hx' : x ≤ 9) : DP w (W.setCell ⟨g, 0, none⟩ (.int .i64 x)) R K g T := by
  obtain ⟨s, a, o, hb, h1, h2, h3, h4⟩ := h
  exact ⟨x, a, o, by omega, h1.set_ 0 _, h2, h3.set_ (by show w.heap.size ≤ g; omega) _, h4.ne (by omega) _⟩
theorem DP.set1 {w W : World} {R K g : Nat} {T : TypeId} (h : DP w W R K g T) (x : Int) (hx : -9 ≤ x) (hx' : x ≤ 9) : DP w (W.setCell ⟨g, 1, none⟩ (.int .i64 x)) R K g T := by
  obtain ⟨s, a, o, hb, h1, h2, h3, h4⟩ := h
  exact ⟨s, x, o, by omega, h1.set_ 1 _, h2, h3.set_ (by show w.heap.size ≤ g; omega) _, h4.ne (by omega) _⟩
theorem DP.set2 {w W : World} {R K g : Nat} {T : TypeId} (h : DP w W R K g T) (x : Int) (hx : -9 ≤ x) (hx' : x ≤ 9) : DP w (W.setCell ⟨g, 2, none⟩ (.int .i64 x)) R K g T := by
  obtain ⟨s, a, o, hb, h1, h2, h3, h4⟩ := h
  exact ⟨s, a, x, by omega, h1.set_ 2 _, h2, h3.set_ (by show w.heap.size ≤ g; omega) _, h4.ne (by omega) _⟩
theorem DP.cells {w W : World} {R K g : Nat} {T : TypeId} (h : DP w W R K g T) :
    ∃ x y z : Value, W.cell? ⟨g, 0, none⟩ = some x ∧ W.cell? ⟨g, 1, none⟩ = some y ∧ W.cell? ⟨g, 2, none⟩ = some z ∧ W.frozen? ⟨g, 0, none⟩ = false ∧ W.frozen? ⟨g, 1, none⟩ = false ∧ W.frozen? ⟨g, 2, none⟩ = false ∧ g < W.heap.size := by
  obtain ⟨s, a, o, hb, h1, h2, h3, h4⟩ := h
  exact ⟨_, _, _, h1.get rfl, h1.get rfl, h1.get rfl, h1.frozen 0, h1.frozen 1, h1.frozen 2, h1.lt⟩

end Go.Proofs.Ytgogpjlemaajeaa

/- The shared imports and small words of this seat's walks: what a pure call leaves, and the plain tests on pitches. No condition. -/
import Derived.Test.YtgogpjlemaajeaaRows
import Derived.WalkKit
import Derived.WalkSpells
import Derived.WalkLawsBesides
import Derived.ProofKit
import Derived.Handy
import Derived.Lib.Hide
namespace Go.Proofs.Ytgogpjlemaajeaa
open Go.RowKit

theorem own : ownKnob Try.prog.godebug = none := by kernel_rfl
theorem laidOut : laidOutB Try.prog = true := by kernel_rfl

/-- What was there below the heap's end is there behind the call, as it was. -/
theorem bcell {W w1 : World} (hb : Below W.heap.size W w1) : (∀ b o, b < W.heap.size → w1.cell? ⟨b, o, none⟩ = W.cell? ⟨b, o, none⟩) ∧ (∀ b o, b < W.heap.size → w1.frozen? ⟨b, o, none⟩ = W.frozen? ⟨b, o, none⟩) :=
  ⟨fun b o h => hb.cell (p := ⟨b, o, none⟩) h, fun b o h => hb.frozen (p := ⟨b, o, none⟩) h⟩

/-- Behind a pure call at the world W of a walk that began in w: nothing old has turned, the blocks of the walk are there, and every cell and mark below reads as before. -/
theorem after {w W w1 : World} {n : Nat} (hb : Below W.heap.size W w1) (h : Below w.heap.size w W) (hB : w.heap.size ≤ W.heap.size) (hn : n < W.heap.size) :
    Below w.heap.size w w1 ∧ n < w1.heap.size ∧ (∀ b o, b < W.heap.size → w1.cell? ⟨b, o, none⟩ = W.cell? ⟨b, o, none⟩) ∧ (∀ b o, b < W.heap.size → w1.frozen? ⟨b, o, none⟩ = W.frozen? ⟨b, o, none⟩) :=
  ⟨h.trans (hb.mono hB), Nat.lt_of_lt_of_le hn hb.size, (bcell hb).1, (bcell hb).2⟩

/-- The call returns v, and nothing that was there has turned. -/
def Gives (v : Value) (w : World) (e : Ending) (w' : World) : Prop := e = .returned v ∧ Below w.heap.size w w'

/-- The plain test of a range. -/
def inR (n lo hi : Int) : Bool := decide (lo ≤ n ∧ n ≤ hi)
theorem inR_t {n lo hi : Int} (h : inR n lo hi = true) : lo ≤ n ∧ n ≤ hi := by simpa [inR] using h
theorem inR_f {n lo hi : Int} (h : inR n lo hi = false) : ¬ (lo ≤ n ∧ n ≤ hi) := by simpa [inR] using h

/-- The value of a pitch. -/
def pv (s a o : Int) : Value := .agg #[.int .i64 s, .int .i64 a, .int .i64 o]

/-- The plain test of a pitch. -/
def pitchB (s a o : Int) : Bool := inR s 0 6 && inR a (-2) 2 && inR o 0 8

theorem pitchB_t {s a o : Int} (h : pitchB s a o = true) : 0 ≤ s ∧ s ≤ 6 ∧ -2 ≤ a ∧ a ≤ 2 ∧ 0 ≤ o ∧ o ≤ 8 := by
  unfold pitchB at h
  rw [Bool.and_eq_true, Bool.and_eq_true] at h
  obtain ⟨⟨h1, h2⟩, h3⟩ := h
  have g1 := inR_t h1
  have g2 := inR_t h2
  have g3 := inR_t h3
  omega
theorem pitchB_mk {s a o : Int} (h : 0 ≤ s ∧ s ≤ 6 ∧ -2 ≤ a ∧ a ≤ 2 ∧ 0 ≤ o ∧ o ≤ 8) : pitchB s a o = true := by
  unfold pitchB inR
  simp only [Bool.and_eq_true, decide_eq_true_eq]
  omega
theorem pitchB_f {s a o : Int} (h : pitchB s a o = false) : ¬ (0 ≤ s ∧ s ≤ 6 ∧ -2 ≤ a ∧ a ≤ 2 ∧ 0 ≤ o ∧ o ≤ 8) := fun hh => by
  rw [pitchB_mk hh] at h; cases h
theorem pitchB_no {s a o : Int} (h : ¬ (0 ≤ s ∧ s ≤ 6 ∧ -2 ≤ a ∧ a ≤ 2 ∧ 0 ≤ o ∧ o ≤ 8)) : pitchB s a o = false := by
  cases hh : pitchB s a o
  · rfl
  · exact absurd (pitchB_t hh) h

/-- The half tones of a step above C. -/
def half (s : Int) : Int := if s = 0 then 0 else if s = 1 then 2 else if s = 2 then 4 else if s = 3 then 5 else if s = 4 then 7 else if s = 5 then 9 else 11
theorem half_bd (s : Int) : 0 ≤ half s ∧ half s ≤ 11 := by
  unfold half
  by_cases h0 : s = 0 <;> by_cases h1 : s = 1 <;> by_cases h2 : s = 2 <;> by_cases h3 : s = 3 <;> by_cases h4 : s = 4 <;> by_cases h5 : s = 5 <;> simp [h0, h1, h2, h3, h4, h5] <;> omega
/-- The half tones of a place. -/
def natu (p : Int) : Int := 12 * (p / 7) + half (p % 7)
theorem natu_bd (p : Int) (h0 : 0 ≤ p) (h1 : p ≤ 1000) : 0 ≤ natu p ∧ natu p ≤ 2000 := by
  have := half_bd (p % 7)
  unfold natu
  omega
theorem natu_of (s o : Int) (h0 : 0 ≤ s) (h6 : s ≤ 6) : natu (7 * o + s) = 12 * o + half s := by
  unfold natu
  rw [show (7 * o + s) / 7 = o from by omega, show (7 * o + s) % 7 = s from by omega]
def placeV (s a o : Int) : Int := if pitchB s a o then 7 * o + s else -1
theorem placeV_t {s a o : Int} (h : pitchB s a o = true) : placeV s a o = 7 * o + s := by unfold placeV; rw [if_pos h]
theorem placeV_f {s a o : Int} (h : pitchB s a o = false) : placeV s a o = -1 := by unfold placeV; rw [h]; rfl
def keyV (s a o : Int) : Int := if pitchB s a o then 12 * o + half s + a else -100
theorem keyV_t {s a o : Int} (h : pitchB s a o = true) : keyV s a o = 12 * o + half s + a := by unfold keyV; rw [if_pos h]
theorem keyV_f {s a o : Int} (h : pitchB s a o = false) : keyV s a o = -100 := by unfold keyV; rw [h]; rfl

theorem below_drewN {B : Nat} {a w : World} (h : Below B a w) (n : Nat) : Below B a (w.drewN n) := ⟨h.os, h.tape, h.output, h.size, h.block⟩
theorem quiet_left {P : Program} {f : FuncId} {args : Array Value} {w : World} {n : Nat} {v : Value}
    (h : Calls P f args (w.drewN n) fun e w' => e = .returned v ∧ w.drewN n = w') : Calls P f args (w.drewN n) fun e w'' => e = .returned v ∧ ∃ m, w'' = w.drewN m :=
  h.mono fun _ _ ⟨he, hm⟩ => ⟨he, n, hm.symm⟩
theorem quiet_add_left {P : Program} {f : FuncId} {args : Array Value} {w : World} {a n : Nat} {v : Value}
    (h : Calls P f args (w.drewN (a + n)) fun e w' => e = .returned v ∧ w.drewN (a + n) = w') :
    Calls P f args (w.drewN (a + n)) fun e w'' => e = .returned v ∧ ∃ m, w'' = w.drewN (a + m) :=
  h.mono fun _ _ ⟨he, hm⟩ => ⟨he, n, hm.symm⟩

/-- Behind a pure call: the cells of a block of the walk, and all that is old, read as before. -/
theorem keepS3 {w W w2 : World} {P : Nat} {x y z : Value} (hb : Below W.heap.size W w2)
    (h : W.cell? ⟨P, 0, none⟩ = some x ∧ W.cell? ⟨P, 1, none⟩ = some y ∧ W.cell? ⟨P, 2, none⟩ = some z ∧ P < W.heap.size ∧ Below w.heap.size w W) :
    w2.cell? ⟨P, 0, none⟩ = some x ∧ w2.cell? ⟨P, 1, none⟩ = some y ∧ w2.cell? ⟨P, 2, none⟩ = some z ∧ P < w2.heap.size ∧ Below w.heap.size w w2 := by
  obtain ⟨h0, h1, h2, h3, h4⟩ := h
  exact ⟨(hb.cell (p := ⟨P, 0, none⟩) h3).trans h0, (hb.cell (p := ⟨P, 1, none⟩) h3).trans h1, (hb.cell (p := ⟨P, 2, none⟩) h3).trans h2, Nat.lt_of_lt_of_le h3 hb.size, h4.trans (hb.mono h4.size)⟩
theorem keepS2 {w W w2 : World} {P : Nat} {x y : Value} (hb : Below W.heap.size W w2)
    (h : W.cell? ⟨P, 0, none⟩ = some x ∧ W.cell? ⟨P, 1, none⟩ = some y ∧ P < W.heap.size ∧ Below w.heap.size w W) :
    w2.cell? ⟨P, 0, none⟩ = some x ∧ w2.cell? ⟨P, 1, none⟩ = some y ∧ P < w2.heap.size ∧ Below w.heap.size w w2 := by
  obtain ⟨h0, h1, h3, h4⟩ := h
  exact ⟨(hb.cell (p := ⟨P, 0, none⟩) h3).trans h0, (hb.cell (p := ⟨P, 1, none⟩) h3).trans h1, Nat.lt_of_lt_of_le h3 hb.size, h4.trans (hb.mono h4.size)⟩

/-- Block g is just these cells, none of them frozen. -/
def Blk (w : World) (g : Nat) (t : TypeId) (cs : Array Value) : Prop := w.heap[g]? = some (.cells cs t (0, 0))
theorem Blk.lt {w : World} {g : Nat} {t : TypeId} {cs : Array Value} (h : Blk w g t cs) : g < w.heap.size := by
  unfold Blk at h
  exact (Array.getElem?_eq_some_iff.1 h).1
theorem Blk.cell {w : World} {g : Nat} {t : TypeId} {cs : Array Value} (h : Blk w g t cs) (i : Nat) : w.cell? ⟨g, i, none⟩ = cs[i]? := cell_of_row w g i cs t (0, 0) h
theorem Blk.frozen {w : World} {g : Nat} {t : TypeId} {cs : Array Value} (h : Blk w g t cs) (i : Nat) : w.frozen? ⟨g, i, none⟩ = false := by
  unfold Blk at h
  simp [World.frozen?, h]
theorem Blk.new (w : World) (t : TypeId) (cs : Array Value) : Blk (w.alloc (.cells cs t)) w.heap.size t cs := heap_alloc_new w _
theorem Blk.drew {w : World} {g : Nat} {t : TypeId} {cs : Array Value} (h : Blk w g t cs) : Blk w.drew g t cs := h
theorem Blk.drewN {w : World} {g : Nat} {t : TypeId} {cs : Array Value} (h : Blk w g t cs) (n : Nat) : Blk (w.drewN n) g t cs := h
theorem Blk.alloc {w : World} {g : Nat} {t : TypeId} {cs : Array Value} (h : Blk w g t cs) (o : Obj) : Blk (w.alloc o) g t cs := (Below.heap_alloc w o g h.lt).trans h
theorem Blk.set_ {w : World} {g : Nat} {t : TypeId} {cs : Array Value} (h : Blk w g t cs) (i : Nat) (u : Value) : Blk (w.setCell ⟨g, i, none⟩ u) g t (cs.setIfInBounds i u) := by
  unfold Blk at h ⊢
  simp [World.setCell, Array.getElem?_modify, h]
theorem Blk.far {w : World} {g : Nat} {t : TypeId} {cs : Array Value} (h : Blk w g t cs) {p : Addr} (hp : g ≠ p.block) (u : Value) : Blk (w.setCell p u) g t cs := (Below.heap_setCell w p u g hp).trans h
theorem Blk.below {w w' : World} {g : Nat} {t : TypeId} {cs : Array Value} {B : Nat} (h : Blk w g t cs) (hb : Below B w w') (hg : g < B) : Blk w' g t cs := (hb.block g hg).trans h
theorem Blk.pure {w w' : World} {g : Nat} {t : TypeId} {cs : Array Value} (h : Blk w g t cs) (hb : Below w.heap.size w w') : Blk w' g t cs := h.below hb h.lt
theorem Blk.grown {w w' : World} {g : Nat} {t : TypeId} {cs : Array Value} {row : Option Nat} (h : Blk w g t cs) (hb : w.grownBy w' row) (hg : some g ≠ row) : Blk w' g t cs := (hb.block g h.lt hg).trans h
theorem Blk.size_ {w : World} {g : Nat} {t : TypeId} {cs : Array Value} (h : Blk w g t cs) : w.heap[g]? = some (.cells cs t (0, 0)) := h
theorem below_pure {w W w1 : World} (h : Below w.heap.size w W) (hb : Below W.heap.size W w1) : Below w.heap.size w w1 := h.trans (hb.mono h.size)

end Go.Proofs.Ytgogpjlemaajeaa

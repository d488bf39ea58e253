/- The shared imports and small words of this seat's walks: what a pure call leaves, and the plain tests on pitches. No condition. -/
import Derived.Test.YtgogpjlemaajeaaRows
import Derived.WalkKit
import Derived.WalkSpells
import Derived.WalkLawsBesides
import Derived.ProofKit
import Derived.Handy
import Derived.Lib.Hide
namespace Go.Proofs.Ytgogpjlemaajeaa
open Go.RowKit

theorem own : ownKnob Try.prog.godebug = none := by kernel_rfl
theorem laidOut : laidOutB Try.prog = true := by kernel_rfl

/-- What was there below the heap's end is there behind the call, as it was. -/
theorem bcell {W w1 : World} (hb : Below W.heap.size W w1) : (∀ b o, b < W.heap.size → w1.cell? ⟨b, o, none⟩ = W.cell? ⟨b, o, none⟩) ∧ (∀ b o, b < W.heap.size → w1.frozen? ⟨b, o, none⟩ = W.frozen? ⟨b, o, none⟩) :=
  ⟨fun b o h => hb.cell (p := ⟨b, o, none⟩) h, fun b o h => hb.frozen (p := ⟨b, o, none⟩) h⟩

/-- Behind a pure call at the world W of a walk that began in w: nothing old has turned, the blocks of the walk are there, and every cell and mark below reads as before. -/
theorem after {w W w1 : World} {n : Nat} (hb : Below W.heap.size W w1) (h : Below w.heap.size w W) (hB : w.heap.size ≤ W.heap.size) (hn : n < W.heap.size) :
    Below w.heap.size w w1 ∧ n < w1.heap.size ∧ (∀ b o, b < W.heap.size → w1.cell? ⟨b, o, none⟩ = W.cell? ⟨b, o, none⟩) ∧ (∀ b o, b < W.heap.size → w1.frozen? ⟨b, o, none⟩ = W.frozen? ⟨b, o, none⟩) :=
  ⟨h.trans (hb.mono hB), Nat.lt_of_lt_of_le hn hb.size, (bcell hb).1, (bcell hb).2⟩

/-- The call returns v, and nothing that was there has turned. -/
def Gives (v : Value) (w : World) (e : Ending) (w' : World) : Prop := e = .returned v ∧ Below w.heap.size w w'

/-- The plain test of a range. -/
def inR (n lo hi : Int) : Bool := decide (lo ≤ n ∧ n ≤ hi)
theorem inR_t {n lo hi : Int} (h : inR n lo hi = true) : lo ≤ n ∧ n ≤ hi := by simpa [inR] using h
theorem inR_f {n lo hi : Int} (h : inR n lo hi = false) : ¬ (lo ≤ n ∧ n ≤ hi) := by simpa [inR] using h

/-- The value of a pitch. -/
def pv (s a o : Int) : Value := .agg #[.int .i64 s, .int .i64 a, .int .i64 o]

/-- The plain test of a pitch. -/
def pitchB (s a o : Int) : Bool := inR s 0 6 && inR a (-2) 2 && inR o 0 8

end Go.Proofs.Ytgogpjlemaajeaa

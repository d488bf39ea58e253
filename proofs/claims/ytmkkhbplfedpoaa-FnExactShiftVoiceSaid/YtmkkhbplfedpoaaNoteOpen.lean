/- How a note that came in lies in memory: six cells. No condition. -/
import Derived.Test.YtmkkhbplfedpoaaKit
namespace Go.Proofs.Ytmkkhbplfedpoaa
open Go.ChangeShapes Go.WideShapes Go.ChangeAt Go.RowKit

theorem nc_note : Try.prog.cellsOf 25 = 6 := by kernel_rfl
theorem nc_pitch : Try.prog.cellsOf 23 = 3 := by kernel_rfl
theorem nc_int : Try.prog.cellsOf 3 = 1 := by kernel_rfl
theorem nc_bool : Try.prog.cellsOf 4 = 1 := by kernel_rfl

theorem list6 {α : Type} {l : List α} (h : l.length = 6) : ∃ a b c d e f, l = [a, b, c, d, e, f] := by
  match l, h with
  | [a, b, c, d, e, f], _ => exact ⟨a, b, c, d, e, f, rfl⟩
theorem list4 {α : Type} {l : List α} (h : l.length = 4) : ∃ a b c d, l = [a, b, c, d] := by
  match l, h with
  | [a, b, c, d], _ => exact ⟨a, b, c, d, rfl⟩
theorem list3 {α : Type} {l : List α} (h : l.length = 3) : ∃ a b c, l = [a, b, c] := by
  match l, h with
  | [a, b, c], _ => exact ⟨a, b, c, rfl⟩

set_option maxRecDepth 10000 in
theorem note_cells {H : Type} {enc : TypeId × Value → H} {w : World} {base : Nat} {spare : Nat → Bool} {held : Bool} {fuel : Nat} {cs : List Value} {x : DataW H × List MemPlace}
    (h : DataW.trod enc Try.prog w base spare held fuel 25 cs = some x) :
    ∃ (r : Bool) (s a o t : Int) (d : Bool), cs = [.bool r, .int .i64 s, .int .i64 a, .int .i64 o, .int .i64 t, .bool d] ∧
      (Lit.int .i64 s).wf = true ∧ (Lit.int .i64 a).wf = true ∧ (Lit.int .i64 o).wf = true ∧ (Lit.int .i64 t).wf = true := by
  obtain ⟨xs, n, _, _, hl, hlen, hg⟩ := DataW.trod_struct Try.underlying25 h
  rw [nc_note] at hl
  obtain ⟨c0, c1, c2, c3, c4, c5, rfl⟩ := list6 hl
  obtain ⟨y0, y1, y2, y3, rfl⟩ := list4 (l := xs) (by rw [hlen]; rfl)
  have g0 := hg 0 _ rfl
  have g1 := hg 1 _ rfl
  have g2 := hg 2 _ rfl
  have g3 := hg 3 _ rfl
  simp [nc_bool] at g0 g3
  simp [nc_pitch] at g1
  simp [nc_int] at g2
  obtain ⟨zs, m, _, _, kl, klen, kg⟩ := DataW.trod_struct Try.underlying23 g1
  obtain ⟨z0, z1, z2, rfl⟩ := list3 (l := zs) (by rw [klen]; rfl)
  have f0 := kg 0 _ rfl
  have f1 := kg 1 _ rfl
  have f2 := kg 2 _ rfl
  simp [nc_int] at f0 f1 f2
  obtain ⟨r, e0, -⟩ := DataW.trod_bool Try.underlying4 g0
  obtain ⟨s, e1, -, w1⟩ := DataW.trod_int Try.underlying3 f0
  obtain ⟨a, e2, -, w2⟩ := DataW.trod_int Try.underlying3 f1
  obtain ⟨o, e3, -, w3⟩ := DataW.trod_int Try.underlying3 f2
  obtain ⟨t, e4, -, w4⟩ := DataW.trod_int Try.underlying3 g2
  obtain ⟨d, e5, -⟩ := DataW.trod_bool Try.underlying4 g3
  simp at e0 e1 e2 e3 e4 e5
  subst e0 e1 e2 e3 e4 e5
  exact ⟨r, s, a, o, t, d, rfl, w1, w2, w3, w4⟩

theorem note_open {H : Type} {enc : TypeId × Value → H} {w : World} {base b0 : Nat} {spare : Nat → Bool} {held : Bool} {r : Reach} {v : Value} {d : DataW H} {p : List MemPlace}
    (hv : Value.okWide Try.prog w r b0 25 v) (h : DataW.Trod enc Try.prog w base spare held 25 v d p) :
    ∃ (r : Bool) (s a o t : Int) (d : Bool), v = .agg #[.bool r, .int .i64 s, .int .i64 a, .int .i64 o, .int .i64 t, .bool d] ∧
      (Lit.int .i64 s).wf = true ∧ (Lit.int .i64 a).wf = true ∧ (Lit.int .i64 o).wf = true ∧ (Lit.int .i64 t).wf = true := by
  obtain ⟨cs, rfl, hsz⟩ := okWide_struct Try.underlying25 hv
  obtain ⟨fuel, hf⟩ := h
  obtain ⟨r, s, a, o, t, d, e, w1, w2, w3, w4⟩ := note_cells (cs := cs.toList) (by simpa [Value.cells] using hf)
  obtain ⟨l⟩ := cs
  simp only at e
  subst e
  exact ⟨r, s, a, o, t, d, rfl, w1, w2, w3, w4⟩

end Go.Proofs.Ytmkkhbplfedpoaa

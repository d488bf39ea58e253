/- The walk of the law FnExactPitchText: it returns true, and nothing that was there turns. No condition. -/
import Derived.Test.YtgogpjlemaajeaaPt
namespace Go.Proofs.Ytgogpjlemaajeaa
open Go.RowKit

set_option maxHeartbeats 2000000 in
theorem fnExactPitchText_walk (s a o : Int) (w : World) (_ : (Lit.int .i64 s).wf = true) (_ : (Lit.int .i64 a).wf = true) (_ : (Lit.int .i64 o).wf = true) :
    Calls Try.prog 7 #[.agg #[.int .i64 s, .int .i64 a, .int .i64 o]] w (Gives (.bool true) w) := by
  have HA := Lib.hid (fun W => pitchText_any s a o W)
  have HB := Lib.hid (fun W => specPitchText_any s a o W)
  have HAA := fun W => HA.out W
  have HBB := fun W => HB.out W
  generalize S (txtL s a o) = TX at HAA HBB
  have H1 := Lib.hid HAA
  have H2 := Lib.hid HBB
  clear HA HB HAA HBB
  go_enter Try.func7, Try.ntmps7
  go_wp2_with fail
  refine (toPitch_any _ _ _ _).mono ?_
  rintro e w1 ⟨rfl, hb⟩
  have k0 : Blk w1 w.heap.size 23 #[.int .i64 s, .int .i64 a, .int .i64 o] := (Blk.new w _ _).pure hb
  have hB := below_pure (w := w) (by go_grown) hb
  clear hb
  go_wp2_with fail
  refine (H2.out _).mono ?_
  rintro e w2 ⟨rfl, hb⟩
  replace k0 := k0.pure hb
  replace hB := below_pure hB hb
  have c0 : w2.cell? ⟨w.heap.size, 0, none⟩ = some (.int .i64 s) := Blk.get k0 rfl
  have c1 : w2.cell? ⟨w.heap.size, 1, none⟩ = some (.int .i64 a) := Blk.get k0 rfl
  have c2 : w2.cell? ⟨w.heap.size, 2, none⟩ = some (.int .i64 o) := Blk.get k0 rfl
  have hz := k0.lt
  clear hb k0
  go_wp2_with fail
  refine (toPitch_any _ _ _ _).mono ?_
  rintro e w3 ⟨rfl, hb⟩
  replace hB := below_pure hB hb
  clear hb c0 c1 c2 hz
  go_wp2_with fail
  refine (H1.out _).mono ?_
  rintro e w4 ⟨rfl, hb⟩
  replace hB := below_pure hB hb
  clear hb
  go_wp2
  go_ret
  exact ⟨rfl, hB⟩

end Go.Proofs.Ytgogpjlemaajeaa

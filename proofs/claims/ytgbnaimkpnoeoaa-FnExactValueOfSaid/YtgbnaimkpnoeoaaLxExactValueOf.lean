/- The walk of the law FnExactValueOf: it returns true, and nothing that was there turns. No condition. -/
import Derived.Test.YtgbnaimkpnoeoaaLo
namespace Go.Proofs.Ytgbnaimkpnoeoaa
open Go.RowKit

set_option maxHeartbeats 1000000 in
theorem fnExactValueOf_walk (n : Int) (w : World) (_ : (Lit.int .i64 n).wf = true) :
    Calls Try.prog 6 #[.int .i64 n] w (Gives (.bool true) w) := by
  go_enter Try.func6, Try.ntmps6
  have hB := Below.refl w.heap.size w
  have hsz := hB.size
  go_wp2_with fail
  go_call (specValueOf_any _ _) as e c1 ⟨rfl, hb⟩
  replace hB := below_pure (w := w) (by go_grown) hb
  clear hb; replace hsz := hB.size
  go_wp2_with fail
  go_call (valueOf_any _ _) as e c2 ⟨rfl, hb⟩
  have k0 : Blk c2 (c1.heap.size) 26 #[.int .i64 (voP vB n), .int .i64 (voP vD n), .int .i64 (voP vT n)] := Blk.pure (by repeat' (first | (with_reducible assumption) | (with_reducible exact Blk.new _ _ _) | (with_reducible exact Blk.new' (by simp)) | (with_reducible refine Blk.alloc ?_ _) | (with_reducible refine Blk.drew ?_) | (with_reducible refine Blk.drewN ?_ _) | (with_reducible refine Blk.ne ?_ ?_ _) | omega | (simp; omega))) hb
  replace hB := below_pure (w := w) (by go_grown) hb
  clear hb; replace hsz := hB.size
  have k0_c0 : c2.cell? ⟨c1.heap.size, 0, none⟩ = some (.int .i64 (voP vB n)) := Blk.get k0 rfl
  have k0_f0 : c2.frozen? ⟨c1.heap.size, 0, none⟩ = false := Blk.frozen k0 0
  have k0_c1 : c2.cell? ⟨c1.heap.size, 1, none⟩ = some (.int .i64 (voP vD n)) := Blk.get k0 rfl
  have k0_f1 : c2.frozen? ⟨c1.heap.size, 1, none⟩ = false := Blk.frozen k0 1
  have k0_c2 : c2.cell? ⟨c1.heap.size, 2, none⟩ = some (.int .i64 (voP vT n)) := Blk.get k0 rfl
  have k0_f2 : c2.frozen? ⟨c1.heap.size, 2, none⟩ = false := Blk.frozen k0 2
  have k0_z : c1.heap.size < c2.heap.size := Blk.lt k0
  go_wp2_with fail
  go_call (eqValue_same _ _ _ _) as e c3 ⟨rfl, hb⟩
  replace k0 : Blk c3 (c1.heap.size) 26 #[.int .i64 (voP vB n), .int .i64 (voP vD n), .int .i64 (voP vT n)] := Blk.pure (by repeat' (first | (with_reducible assumption) | (with_reducible exact Blk.new _ _ _) | (with_reducible exact Blk.new' (by simp)) | (with_reducible refine Blk.alloc ?_ _) | (with_reducible refine Blk.drew ?_) | (with_reducible refine Blk.drewN ?_ _) | (with_reducible refine Blk.ne ?_ ?_ _) | omega | (simp; omega))) hb
  have k1 : Blk c3 (c2.heap.size) 26 #[.int .i64 (voP vB n), .int .i64 (voP vD n), .int .i64 (voP vT n)] := Blk.pure (by repeat' (first | (with_reducible assumption) | (with_reducible exact Blk.new _ _ _) | (with_reducible exact Blk.new' (by simp)) | (with_reducible refine Blk.alloc ?_ _) | (with_reducible refine Blk.drew ?_) | (with_reducible refine Blk.drewN ?_ _) | (with_reducible refine Blk.ne ?_ ?_ _) | omega | (simp; omega))) hb
  replace hB := below_pure (w := w) (by go_grown) hb
  clear hb; replace hsz := hB.size
  clear k0_c0 k0_f0 k0_c1 k0_f1 k0_c2 k0_f2 k0_z
  have k0_c0 : c3.cell? ⟨c1.heap.size, 0, none⟩ = some (.int .i64 (voP vB n)) := Blk.get k0 rfl
  have k0_f0 : c3.frozen? ⟨c1.heap.size, 0, none⟩ = false := Blk.frozen k0 0
  have k0_c1 : c3.cell? ⟨c1.heap.size, 1, none⟩ = some (.int .i64 (voP vD n)) := Blk.get k0 rfl
  have k0_f1 : c3.frozen? ⟨c1.heap.size, 1, none⟩ = false := Blk.frozen k0 1
  have k0_c2 : c3.cell? ⟨c1.heap.size, 2, none⟩ = some (.int .i64 (voP vT n)) := Blk.get k0 rfl
  have k0_f2 : c3.frozen? ⟨c1.heap.size, 2, none⟩ = false := Blk.frozen k0 2
  have k0_z : c1.heap.size < c3.heap.size := Blk.lt k0
  have k1_c0 : c3.cell? ⟨c2.heap.size, 0, none⟩ = some (.int .i64 (voP vB n)) := Blk.get k1 rfl
  have k1_f0 : c3.frozen? ⟨c2.heap.size, 0, none⟩ = false := Blk.frozen k1 0
  have k1_c1 : c3.cell? ⟨c2.heap.size, 1, none⟩ = some (.int .i64 (voP vD n)) := Blk.get k1 rfl
  have k1_f1 : c3.frozen? ⟨c2.heap.size, 1, none⟩ = false := Blk.frozen k1 1
  have k1_c2 : c3.cell? ⟨c2.heap.size, 2, none⟩ = some (.int .i64 (voP vT n)) := Blk.get k1 rfl
  have k1_f2 : c3.frozen? ⟨c2.heap.size, 2, none⟩ = false := Blk.frozen k1 2
  have k1_z : c2.heap.size < c3.heap.size := Blk.lt k1
  go_wp2
  go_ret
  exact ⟨rfl, by go_grown⟩
end Go.Proofs.Ytgbnaimkpnoeoaa

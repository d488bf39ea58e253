/- The walk of the copy of a note. No condition. -/
import Derived.Test.YtmkkhbplfedpoaaVa
namespace Go.Proofs.Ytmkkhbplfedpoaa
open Go.RowKit

set_option maxHeartbeats 8000000 in
theorem toNote_any (r : Bool) (s a o t : Int) (d : Bool) (w : World) : Calls Try.prog 18 #[.agg #[.bool r, .int .i64 s, .int .i64 a, .int .i64 o, .int .i64 t, .bool d]] w (Gives (.agg #[.bool r, .int .i64 s, .int .i64 a, .int .i64 o, .int .i64 t, .bool d]) w) := by
  go_enter Try.func18, Try.ntmps18
  go_wp2_with fail
  have k0 : Blk (((w.alloc (Obj.cells #[.bool r, .int .i64 s, .int .i64 a, .int .i64 o, .int .i64 t, .bool d] 25)).alloc (Obj.cells #[.bool false, .int .i64 0, .int .i64 0, .int .i64 0, .int .i64 0, .bool false] 29)).alloc (Obj.cells #[.bool r, .int .i64 0, .int .i64 0, .int .i64 0, .int .i64 0, .bool false] 29)) (w.heap.size) 25 #[.bool r, .int .i64 s, .int .i64 a, .int .i64 o, .int .i64 t, .bool d] := (by repeat' (first | (with_reducible assumption) | (with_reducible exact Blk.new _ _ _) | (with_reducible exact Blk.new' (by simp)) | (with_reducible refine Blk.alloc ?_ _) | (with_reducible refine Blk.drew ?_) | (with_reducible refine Blk.drewN ?_ _) | (with_reducible refine Blk.ne ?_ ?_ _) | omega | (simp; omega)))
  have k1 : Blk (((w.alloc (Obj.cells #[.bool r, .int .i64 s, .int .i64 a, .int .i64 o, .int .i64 t, .bool d] 25)).alloc (Obj.cells #[.bool false, .int .i64 0, .int .i64 0, .int .i64 0, .int .i64 0, .bool false] 29)).alloc (Obj.cells #[.bool r, .int .i64 0, .int .i64 0, .int .i64 0, .int .i64 0, .bool false] 29)) (w.heap.size + 1) 29 #[.bool false, .int .i64 0, .int .i64 0, .int .i64 0, .int .i64 0, .bool false] := (by repeat' (first | (with_reducible assumption) | (with_reducible exact Blk.new _ _ _) | (with_reducible exact Blk.new' (by simp)) | (with_reducible refine Blk.alloc ?_ _) | (with_reducible refine Blk.drew ?_) | (with_reducible refine Blk.drewN ?_ _) | (with_reducible refine Blk.ne ?_ ?_ _) | omega | (simp; omega)))
  have k2 : Blk (((w.alloc (Obj.cells #[.bool r, .int .i64 s, .int .i64 a, .int .i64 o, .int .i64 t, .bool d] 25)).alloc (Obj.cells #[.bool false, .int .i64 0, .int .i64 0, .int .i64 0, .int .i64 0, .bool false] 29)).alloc (Obj.cells #[.bool r, .int .i64 0, .int .i64 0, .int .i64 0, .int .i64 0, .bool false] 29)) (w.heap.size + 2) 29 #[.bool r, .int .i64 0, .int .i64 0, .int .i64 0, .int .i64 0, .bool false] := (by repeat' (first | (with_reducible assumption) | (with_reducible exact Blk.new _ _ _) | (with_reducible exact Blk.new' (by simp)) | (with_reducible refine Blk.alloc ?_ _) | (with_reducible refine Blk.drew ?_) | (with_reducible refine Blk.drewN ?_ _) | (with_reducible refine Blk.ne ?_ ?_ _) | omega | (simp; omega)))
  have hB : Below w.heap.size w (((w.alloc (Obj.cells #[.bool r, .int .i64 s, .int .i64 a, .int .i64 o, .int .i64 t, .bool d] 25)).alloc (Obj.cells #[.bool false, .int .i64 0, .int .i64 0, .int .i64 0, .int .i64 0, .bool false] 29)).alloc (Obj.cells #[.bool r, .int .i64 0, .int .i64 0, .int .i64 0, .int .i64 0, .bool false] 29)) := by go_grown
  generalize (((w.alloc (Obj.cells #[.bool r, .int .i64 s, .int .i64 a, .int .i64 o, .int .i64 t, .bool d] 25)).alloc (Obj.cells #[.bool false, .int .i64 0, .int .i64 0, .int .i64 0, .int .i64 0, .bool false] 29)).alloc (Obj.cells #[.bool r, .int .i64 0, .int .i64 0, .int .i64 0, .int .i64 0, .bool false] 29)) = c0 at *
  have k0_c0 : c0.cell? ⟨w.heap.size, 0, none⟩ = some (.bool r) := Blk.get k0 rfl
  have k0_f0 : c0.frozen? ⟨w.heap.size, 0, none⟩ = false := Blk.frozen k0 0
  have k0_c1 : c0.cell? ⟨w.heap.size, 1, none⟩ = some (.int .i64 s) := Blk.get k0 rfl
  have k0_f1 : c0.frozen? ⟨w.heap.size, 1, none⟩ = false := Blk.frozen k0 1
  have k0_c2 : c0.cell? ⟨w.heap.size, 2, none⟩ = some (.int .i64 a) := Blk.get k0 rfl
  have k0_f2 : c0.frozen? ⟨w.heap.size, 2, none⟩ = false := Blk.frozen k0 2
  have k0_c3 : c0.cell? ⟨w.heap.size, 3, none⟩ = some (.int .i64 o) := Blk.get k0 rfl
  have k0_f3 : c0.frozen? ⟨w.heap.size, 3, none⟩ = false := Blk.frozen k0 3
  have k0_c4 : c0.cell? ⟨w.heap.size, 4, none⟩ = some (.int .i64 t) := Blk.get k0 rfl
  have k0_f4 : c0.frozen? ⟨w.heap.size, 4, none⟩ = false := Blk.frozen k0 4
  have k0_c5 : c0.cell? ⟨w.heap.size, 5, none⟩ = some (.bool d) := Blk.get k0 rfl
  have k0_f5 : c0.frozen? ⟨w.heap.size, 5, none⟩ = false := Blk.frozen k0 5
  have k0_z : w.heap.size < c0.heap.size := Blk.lt k0
  have k1_c0 : c0.cell? ⟨w.heap.size + 1, 0, none⟩ = some (.bool false) := Blk.get k1 rfl
  have k1_f0 : c0.frozen? ⟨w.heap.size + 1, 0, none⟩ = false := Blk.frozen k1 0
  have k1_c1 : c0.cell? ⟨w.heap.size + 1, 1, none⟩ = some (.int .i64 0) := Blk.get k1 rfl
  have k1_f1 : c0.frozen? ⟨w.heap.size + 1, 1, none⟩ = false := Blk.frozen k1 1
  have k1_c2 : c0.cell? ⟨w.heap.size + 1, 2, none⟩ = some (.int .i64 0) := Blk.get k1 rfl
  have k1_f2 : c0.frozen? ⟨w.heap.size + 1, 2, none⟩ = false := Blk.frozen k1 2
  have k1_c3 : c0.cell? ⟨w.heap.size + 1, 3, none⟩ = some (.int .i64 0) := Blk.get k1 rfl
  have k1_f3 : c0.frozen? ⟨w.heap.size + 1, 3, none⟩ = false := Blk.frozen k1 3
  have k1_c4 : c0.cell? ⟨w.heap.size + 1, 4, none⟩ = some (.int .i64 0) := Blk.get k1 rfl
  have k1_f4 : c0.frozen? ⟨w.heap.size + 1, 4, none⟩ = false := Blk.frozen k1 4
  have k1_c5 : c0.cell? ⟨w.heap.size + 1, 5, none⟩ = some (.bool false) := Blk.get k1 rfl
  have k1_f5 : c0.frozen? ⟨w.heap.size + 1, 5, none⟩ = false := Blk.frozen k1 5
  have k1_z : w.heap.size + 1 < c0.heap.size := Blk.lt k1
  have k2_c0 : c0.cell? ⟨w.heap.size + 2, 0, none⟩ = some (.bool r) := Blk.get k2 rfl
  have k2_f0 : c0.frozen? ⟨w.heap.size + 2, 0, none⟩ = false := Blk.frozen k2 0
  have k2_c1 : c0.cell? ⟨w.heap.size + 2, 1, none⟩ = some (.int .i64 0) := Blk.get k2 rfl
  have k2_f1 : c0.frozen? ⟨w.heap.size + 2, 1, none⟩ = false := Blk.frozen k2 1
  have k2_c2 : c0.cell? ⟨w.heap.size + 2, 2, none⟩ = some (.int .i64 0) := Blk.get k2 rfl
  have k2_f2 : c0.frozen? ⟨w.heap.size + 2, 2, none⟩ = false := Blk.frozen k2 2
  have k2_c3 : c0.cell? ⟨w.heap.size + 2, 3, none⟩ = some (.int .i64 0) := Blk.get k2 rfl
  have k2_f3 : c0.frozen? ⟨w.heap.size + 2, 3, none⟩ = false := Blk.frozen k2 3
  have k2_c4 : c0.cell? ⟨w.heap.size + 2, 4, none⟩ = some (.int .i64 0) := Blk.get k2 rfl
  have k2_f4 : c0.frozen? ⟨w.heap.size + 2, 4, none⟩ = false := Blk.frozen k2 4
  have k2_c5 : c0.cell? ⟨w.heap.size + 2, 5, none⟩ = some (.bool false) := Blk.get k2 rfl
  have k2_f5 : c0.frozen? ⟨w.heap.size + 2, 5, none⟩ = false := Blk.frozen k2 5
  have k2_z : w.heap.size + 2 < c0.heap.size := Blk.lt k2
  go_call (toPitch_any _ _ _ _) as e c1 ⟨rfl, hb⟩
  replace k0 : Blk c1 (w.heap.size) 25 #[.bool r, .int .i64 s, .int .i64 a, .int .i64 o, .int .i64 t, .bool d] := Blk.pure (by repeat' (first | (with_reducible assumption) | (with_reducible exact Blk.new _ _ _) | (with_reducible exact Blk.new' (by simp)) | (with_reducible refine Blk.alloc ?_ _) | (with_reducible refine Blk.drew ?_) | (with_reducible refine Blk.drewN ?_ _) | (with_reducible refine Blk.ne ?_ ?_ _) | omega | (simp; omega))) hb
  replace k1 : Blk c1 (w.heap.size + 1) 29 #[.bool false, .int .i64 0, .int .i64 0, .int .i64 0, .int .i64 0, .bool false] := Blk.pure (by repeat' (first | (with_reducible assumption) | (with_reducible exact Blk.new _ _ _) | (with_reducible exact Blk.new' (by simp)) | (with_reducible refine Blk.alloc ?_ _) | (with_reducible refine Blk.drew ?_) | (with_reducible refine Blk.drewN ?_ _) | (with_reducible refine Blk.ne ?_ ?_ _) | omega | (simp; omega))) hb
  replace k2 : Blk c1 (w.heap.size + 2) 29 #[.bool r, .int .i64 0, .int .i64 0, .int .i64 0, .int .i64 0, .bool false] := Blk.pure (by repeat' (first | (with_reducible assumption) | (with_reducible exact Blk.new _ _ _) | (with_reducible exact Blk.new' (by simp)) | (with_reducible refine Blk.alloc ?_ _) | (with_reducible refine Blk.drew ?_) | (with_reducible refine Blk.drewN ?_ _) | (with_reducible refine Blk.ne ?_ ?_ _) | omega | (simp; omega))) hb
  replace hB := below_pure (w := w) (by go_grown) hb
  clear hb
  clear k0_c0 k0_f0 k0_c1 k0_f1 k0_c2 k0_f2 k0_c3 k0_f3 k0_c4 k0_f4 k0_c5 k0_f5 k0_z k1_c0 k1_f0 k1_c1 k1_f1 k1_c2 k1_f2 k1_c3 k1_f3 k1_c4 k1_f4 k1_c5 k1_f5 k1_z k2_c0 k2_f0 k2_c1 k2_f1 k2_c2 k2_f2 k2_c3 k2_f3 k2_c4 k2_f4 k2_c5 k2_f5 k2_z
  have k0_c0 : c1.cell? ⟨w.heap.size, 0, none⟩ = some (.bool r) := Blk.get k0 rfl
  have k0_f0 : c1.frozen? ⟨w.heap.size, 0, none⟩ = false := Blk.frozen k0 0
  have k0_c1 : c1.cell? ⟨w.heap.size, 1, none⟩ = some (.int .i64 s) := Blk.get k0 rfl
  have k0_f1 : c1.frozen? ⟨w.heap.size, 1, none⟩ = false := Blk.frozen k0 1
  have k0_c2 : c1.cell? ⟨w.heap.size, 2, none⟩ = some (.int .i64 a) := Blk.get k0 rfl
  have k0_f2 : c1.frozen? ⟨w.heap.size, 2, none⟩ = false := Blk.frozen k0 2
  have k0_c3 : c1.cell? ⟨w.heap.size, 3, none⟩ = some (.int .i64 o) := Blk.get k0 rfl
  have k0_f3 : c1.frozen? ⟨w.heap.size, 3, none⟩ = false := Blk.frozen k0 3
  have k0_c4 : c1.cell? ⟨w.heap.size, 4, none⟩ = some (.int .i64 t) := Blk.get k0 rfl
  have k0_f4 : c1.frozen? ⟨w.heap.size, 4, none⟩ = false := Blk.frozen k0 4
  have k0_c5 : c1.cell? ⟨w.heap.size, 5, none⟩ = some (.bool d) := Blk.get k0 rfl
  have k0_f5 : c1.frozen? ⟨w.heap.size, 5, none⟩ = false := Blk.frozen k0 5
  have k0_z : w.heap.size < c1.heap.size := Blk.lt k0
  have k1_c0 : c1.cell? ⟨w.heap.size + 1, 0, none⟩ = some (.bool false) := Blk.get k1 rfl
  have k1_f0 : c1.frozen? ⟨w.heap.size + 1, 0, none⟩ = false := Blk.frozen k1 0
  have k1_c1 : c1.cell? ⟨w.heap.size + 1, 1, none⟩ = some (.int .i64 0) := Blk.get k1 rfl
  have k1_f1 : c1.frozen? ⟨w.heap.size + 1, 1, none⟩ = false := Blk.frozen k1 1
  have k1_c2 : c1.cell? ⟨w.heap.size + 1, 2, none⟩ = some (.int .i64 0) := Blk.get k1 rfl
  have k1_f2 : c1.frozen? ⟨w.heap.size + 1, 2, none⟩ = false := Blk.frozen k1 2
  have k1_c3 : c1.cell? ⟨w.heap.size + 1, 3, none⟩ = some (.int .i64 0) := Blk.get k1 rfl
  have k1_f3 : c1.frozen? ⟨w.heap.size + 1, 3, none⟩ = false := Blk.frozen k1 3
  have k1_c4 : c1.cell? ⟨w.heap.size + 1, 4, none⟩ = some (.int .i64 0) := Blk.get k1 rfl
  have k1_f4 : c1.frozen? ⟨w.heap.size + 1, 4, none⟩ = false := Blk.frozen k1 4
  have k1_c5 : c1.cell? ⟨w.heap.size + 1, 5, none⟩ = some (.bool false) := Blk.get k1 rfl
  have k1_f5 : c1.frozen? ⟨w.heap.size + 1, 5, none⟩ = false := Blk.frozen k1 5
  have k1_z : w.heap.size + 1 < c1.heap.size := Blk.lt k1
  have k2_c0 : c1.cell? ⟨w.heap.size + 2, 0, none⟩ = some (.bool r) := Blk.get k2 rfl
  have k2_f0 : c1.frozen? ⟨w.heap.size + 2, 0, none⟩ = false := Blk.frozen k2 0
  have k2_c1 : c1.cell? ⟨w.heap.size + 2, 1, none⟩ = some (.int .i64 0) := Blk.get k2 rfl
  have k2_f1 : c1.frozen? ⟨w.heap.size + 2, 1, none⟩ = false := Blk.frozen k2 1
  have k2_c2 : c1.cell? ⟨w.heap.size + 2, 2, none⟩ = some (.int .i64 0) := Blk.get k2 rfl
  have k2_f2 : c1.frozen? ⟨w.heap.size + 2, 2, none⟩ = false := Blk.frozen k2 2
  have k2_c3 : c1.cell? ⟨w.heap.size + 2, 3, none⟩ = some (.int .i64 0) := Blk.get k2 rfl
  have k2_f3 : c1.frozen? ⟨w.heap.size + 2, 3, none⟩ = false := Blk.frozen k2 3
  have k2_c4 : c1.cell? ⟨w.heap.size + 2, 4, none⟩ = some (.int .i64 0) := Blk.get k2 rfl
  have k2_f4 : c1.frozen? ⟨w.heap.size + 2, 4, none⟩ = false := Blk.frozen k2 4
  have k2_c5 : c1.cell? ⟨w.heap.size + 2, 5, none⟩ = some (.bool false) := Blk.get k2 rfl
  have k2_f5 : c1.frozen? ⟨w.heap.size + 2, 5, none⟩ = false := Blk.frozen k2 5
  have k2_z : w.heap.size + 2 < c1.heap.size := Blk.lt k2
  go_wp2
  refine bodyPost_ret (v := .agg #[.bool r, .int .i64 s, .int .i64 a, .int .i64 o, .int .i64 t, .bool d]) (by simp [results, Try.results18, go_sem, *]) rfl ⟨rfl, by go_grown⟩

end Go.Proofs.Ytmkkhbplfedpoaa

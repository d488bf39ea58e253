/- The walk of the law FnExactSpellKey: it returns true, and nothing that was there turns. No condition. -/
import Derived.Test.YtgogpjlemaajeaaSm
namespace Go.Proofs.Ytgogpjlemaajeaa
open Go.RowKit

set_option maxHeartbeats 1000000 in
theorem fnExactSpellKey_walk (f : Int) (b : Bool) (w : World) (_ : (Lit.int .i64 f).wf = true) :
    Calls Try.prog 8 #[.int .i64 f, .bool b] w (Gives (.bool true) w) := by
  go_enter Try.func8, Try.ntmps8
  have hB := Below.refl w.heap.size w
  have hsz := hB.size
  go_wp2_with fail
  go_call (specSpellKey_any _ _ _) as e c1 ⟨rfl, hb⟩
  replace hB := below_pure (w := w) (by go_grown) hb
  clear hb; replace hsz := hB.size
  go_wp2_with fail
  go_call (spellKey_any _ _ _) as e c2 ⟨rfl, hb⟩
  have k0 : Blk c2 (c1.heap.size) 25 #[.int .i64 (skS f b), .int .i64 (skA f b), .int .i64 (skO f)] := Blk.pure (by repeat' (first | (with_reducible assumption) | (with_reducible exact Blk.new _ _ _) | (with_reducible exact Blk.new' (by simp)) | (with_reducible refine Blk.alloc ?_ _) | (with_reducible refine Blk.drew ?_) | (with_reducible refine Blk.drewN ?_ _) | (with_reducible refine Blk.ne ?_ ?_ _) | omega | (simp; omega))) hb
  replace hB := below_pure (w := w) (by go_grown) hb
  clear hb; replace hsz := hB.size
  have k0_c0 : c2.cell? ⟨c1.heap.size, 0, none⟩ = some (.int .i64 (skS f b)) := Blk.get k0 rfl
  have k0_f0 : c2.frozen? ⟨c1.heap.size, 0, none⟩ = false := Blk.frozen k0 0
  have k0_c1 : c2.cell? ⟨c1.heap.size, 1, none⟩ = some (.int .i64 (skA f b)) := Blk.get k0 rfl
  have k0_f1 : c2.frozen? ⟨c1.heap.size, 1, none⟩ = false := Blk.frozen k0 1
  have k0_c2 : c2.cell? ⟨c1.heap.size, 2, none⟩ = some (.int .i64 (skO f)) := Blk.get k0 rfl
  have k0_f2 : c2.frozen? ⟨c1.heap.size, 2, none⟩ = false := Blk.frozen k0 2
  have k0_z : c1.heap.size < c2.heap.size := Blk.lt k0
  go_wp2_with fail
  go_call (eqPitch_same _ _ _ _) as e c3 ⟨rfl, hb⟩
  replace k0 : Blk c3 (c1.heap.size) 25 #[.int .i64 (skS f b), .int .i64 (skA f b), .int .i64 (skO f)] := Blk.pure (by repeat' (first | (with_reducible assumption) | (with_reducible exact Blk.new _ _ _) | (with_reducible exact Blk.new' (by simp)) | (with_reducible refine Blk.alloc ?_ _) | (with_reducible refine Blk.drew ?_) | (with_reducible refine Blk.drewN ?_ _) | (with_reducible refine Blk.ne ?_ ?_ _) | omega | (simp; omega))) hb
  have k1 : Blk c3 (c2.heap.size) 25 #[.int .i64 (skS f b), .int .i64 (skA f b), .int .i64 (skO f)] := Blk.pure (by repeat' (first | (with_reducible assumption) | (with_reducible exact Blk.new _ _ _) | (with_reducible exact Blk.new' (by simp)) | (with_reducible refine Blk.alloc ?_ _) | (with_reducible refine Blk.drew ?_) | (with_reducible refine Blk.drewN ?_ _) | (with_reducible refine Blk.ne ?_ ?_ _) | omega | (simp; omega))) hb
  replace hB := below_pure (w := w) (by go_grown) hb
  clear hb; replace hsz := hB.size
  clear k0_c0 k0_f0 k0_c1 k0_f1 k0_c2 k0_f2 k0_z
  have k0_c0 : c3.cell? ⟨c1.heap.size, 0, none⟩ = some (.int .i64 (skS f b)) := Blk.get k0 rfl
  have k0_f0 : c3.frozen? ⟨c1.heap.size, 0, none⟩ = false := Blk.frozen k0 0
  have k0_c1 : c3.cell? ⟨c1.heap.size, 1, none⟩ = some (.int .i64 (skA f b)) := Blk.get k0 rfl
  have k0_f1 : c3.frozen? ⟨c1.heap.size, 1, none⟩ = false := Blk.frozen k0 1
  have k0_c2 : c3.cell? ⟨c1.heap.size, 2, none⟩ = some (.int .i64 (skO f)) := Blk.get k0 rfl
  have k0_f2 : c3.frozen? ⟨c1.heap.size, 2, none⟩ = false := Blk.frozen k0 2
  have k0_z : c1.heap.size < c3.heap.size := Blk.lt k0
  have k1_c0 : c3.cell? ⟨c2.heap.size, 0, none⟩ = some (.int .i64 (skS f b)) := Blk.get k1 rfl
  have k1_f0 : c3.frozen? ⟨c2.heap.size, 0, none⟩ = false := Blk.frozen k1 0
  have k1_c1 : c3.cell? ⟨c2.heap.size, 1, none⟩ = some (.int .i64 (skA f b)) := Blk.get k1 rfl
  have k1_f1 : c3.frozen? ⟨c2.heap.size, 1, none⟩ = false := Blk.frozen k1 1
  have k1_c2 : c3.cell? ⟨c2.heap.size, 2, none⟩ = some (.int .i64 (skO f)) := Blk.get k1 rfl
  have k1_f2 : c3.frozen? ⟨c2.heap.size, 2, none⟩ = false := Blk.frozen k1 2
  have k1_z : c2.heap.size < c3.heap.size := Blk.lt k1
  go_wp2
  go_ret
  exact ⟨rfl, by go_grown⟩
end Go.Proofs.Ytgogpjlemaajeaa

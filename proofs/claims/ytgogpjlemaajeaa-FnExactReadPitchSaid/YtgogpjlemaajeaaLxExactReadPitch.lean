/- The walk of the law FnExactReadPitch: it returns true, and nothing that was there turns. No condition. -/
import Derived.Test.YtgogpjlemaajeaaRu
namespace Go.Proofs.Ytgogpjlemaajeaa
open Go.RowKit

theorem S_of (x : ByteArray) : ∃ l, x = S l := ⟨x.data.toList, by
  apply ByteArray.ext
  simp [S]⟩

set_option maxHeartbeats 2000000 in
set_option maxRecDepth 100000 in
theorem fnExactReadPitch_walk (x : ByteArray) (w : World) (hx : x.size ≤ maxLen) :
    Calls Try.prog 6 #[.string x] w (Gives (.bool true) w) := by
  obtain ⟨l, rfl⟩ := S_of x
  have H1 := fun W => readPitch_any l hx W
  have H2 := fun W => specReadPitch_any l hx W
  obtain ⟨p, q, r, b, hV⟩ : ∃ (p q r : Int) (b : Bool), rV l = .tuple #[.agg #[.int .i64 p, .int .i64 q, .int .i64 r], .bool b] := ⟨_, _, _, _, rfl⟩
  rw [hV] at H1 H2
  clear hV
  generalize S l = x at *
  have H1h := Lib.hid H1
  have H2h := Lib.hid H2
  clear H1 H2
  unfold maxLen at hx
  by_cases hlen : 1048576 < x.size
  · have hl2 : (1048576 : Int) < (x.size : Int) := by omega
    go_enter Try.func6, Try.ntmps6
    go_wp2
    go_ret
    exact ⟨rfl, by go_grown⟩
  have hl2 : ¬ (1048576 : Int) < (x.size : Int) := by omega
  go_enter Try.func6, Try.ntmps6
  have hB := Below.refl w.heap.size w
  have hsz := hB.size
  go_wp2_with fail
  go_call (H2h.out _) as e c1 ⟨rfl, hb⟩
  replace hB := below_pure (w := w) (by go_grown) hb
  clear hb; replace hsz := hB.size
  go_wp2_with fail
  go_call (H1h.out _) as e c2 ⟨rfl, hb⟩
  have k0 : Blk c2 (c1.heap.size) 25 #[.int .i64 p, .int .i64 q, .int .i64 r] := Blk.pure (by repeat' (first | (with_reducible assumption) | (with_reducible exact Blk.new _ _ _) | (with_reducible exact Blk.new' (by simp)) | (with_reducible refine Blk.alloc ?_ _) | (with_reducible refine Blk.drew ?_) | (with_reducible refine Blk.drewN ?_ _) | (with_reducible refine Blk.ne ?_ ?_ _) | omega | (simp; omega))) hb
  replace hB := below_pure (w := w) (by go_grown) hb
  clear hb; replace hsz := hB.size
  have k0_c0 : c2.cell? ⟨c1.heap.size, 0, none⟩ = some (.int .i64 p) := Blk.get k0 rfl
  have k0_f0 : c2.frozen? ⟨c1.heap.size, 0, none⟩ = false := Blk.frozen k0 0
  have k0_c1 : c2.cell? ⟨c1.heap.size, 1, none⟩ = some (.int .i64 q) := Blk.get k0 rfl
  have k0_f1 : c2.frozen? ⟨c1.heap.size, 1, none⟩ = false := Blk.frozen k0 1
  have k0_c2 : c2.cell? ⟨c1.heap.size, 2, none⟩ = some (.int .i64 r) := Blk.get k0 rfl
  have k0_f2 : c2.frozen? ⟨c1.heap.size, 2, none⟩ = false := Blk.frozen k0 2
  have k0_z : c1.heap.size < c2.heap.size := Blk.lt k0
  go_wp2_with fail
  go_call (eqPitch_same _ _ _ _) as e c3 ⟨rfl, hb⟩
  replace k0 : Blk c3 (c1.heap.size) 25 #[.int .i64 p, .int .i64 q, .int .i64 r] := Blk.pure (by repeat' (first | (with_reducible assumption) | (with_reducible exact Blk.new _ _ _) | (with_reducible exact Blk.new' (by simp)) | (with_reducible refine Blk.alloc ?_ _) | (with_reducible refine Blk.drew ?_) | (with_reducible refine Blk.drewN ?_ _) | (with_reducible refine Blk.ne ?_ ?_ _) | omega | (simp; omega))) hb
  have k1 : Blk c3 (c2.heap.size) 25 #[.int .i64 p, .int .i64 q, .int .i64 r] := Blk.pure (by repeat' (first | (with_reducible assumption) | (with_reducible exact Blk.new _ _ _) | (with_reducible exact Blk.new' (by simp)) | (with_reducible refine Blk.alloc ?_ _) | (with_reducible refine Blk.drew ?_) | (with_reducible refine Blk.drewN ?_ _) | (with_reducible refine Blk.ne ?_ ?_ _) | omega | (simp; omega))) hb
  replace hB := below_pure (w := w) (by go_grown) hb
  clear hb; replace hsz := hB.size
  clear k0_c0 k0_f0 k0_c1 k0_f1 k0_c2 k0_f2 k0_z
  have k0_c0 : c3.cell? ⟨c1.heap.size, 0, none⟩ = some (.int .i64 p) := Blk.get k0 rfl
  have k0_f0 : c3.frozen? ⟨c1.heap.size, 0, none⟩ = false := Blk.frozen k0 0
  have k0_c1 : c3.cell? ⟨c1.heap.size, 1, none⟩ = some (.int .i64 q) := Blk.get k0 rfl
  have k0_f1 : c3.frozen? ⟨c1.heap.size, 1, none⟩ = false := Blk.frozen k0 1
  have k0_c2 : c3.cell? ⟨c1.heap.size, 2, none⟩ = some (.int .i64 r) := Blk.get k0 rfl
  have k0_f2 : c3.frozen? ⟨c1.heap.size, 2, none⟩ = false := Blk.frozen k0 2
  have k0_z : c1.heap.size < c3.heap.size := Blk.lt k0
  have k1_c0 : c3.cell? ⟨c2.heap.size, 0, none⟩ = some (.int .i64 p) := Blk.get k1 rfl
  have k1_f0 : c3.frozen? ⟨c2.heap.size, 0, none⟩ = false := Blk.frozen k1 0
  have k1_c1 : c3.cell? ⟨c2.heap.size, 1, none⟩ = some (.int .i64 q) := Blk.get k1 rfl
  have k1_f1 : c3.frozen? ⟨c2.heap.size, 1, none⟩ = false := Blk.frozen k1 1
  have k1_c2 : c3.cell? ⟨c2.heap.size, 2, none⟩ = some (.int .i64 r) := Blk.get k1 rfl
  have k1_f2 : c3.frozen? ⟨c2.heap.size, 2, none⟩ = false := Blk.frozen k1 2
  have k1_z : c2.heap.size < c3.heap.size := Blk.lt k1
  go_wp2
  go_ret
  exact ⟨rfl, by go_grown⟩
end Go.Proofs.Ytgogpjlemaajeaa

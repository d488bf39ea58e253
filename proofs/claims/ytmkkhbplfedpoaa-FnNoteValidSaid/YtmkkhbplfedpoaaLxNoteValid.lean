/- The walk of the law FnNoteValid: it returns true, and nothing that was there turns. No condition. -/
import Derived.Test.YtmkkhbplfedpoaaDv
import Derived.Test.YtmkkhbplfedpoaaAl
import Derived.Test.YtmkkhbplfedpoaaVa
namespace Go.Proofs.Ytmkkhbplfedpoaa
open Go.RowKit

set_option maxHeartbeats 2000000 in
set_option maxRecDepth 100000 in
theorem fnNoteValid_walk (a : Option Addr) (len cap : Nat) (w : World) (hC : Code' w a len cap) :
    Calls Try.prog 10 #[.slice a len cap] w (Gives (.bool true) w) := by
  by_cases hlen : 1048576 < len
  · have hcap : len ≤ 9223372036854775807 := by have h1 := hC.2.1; have h2 := hC.2.2; unfold maxLen at h2; omega
    go_enter Try.func10, Try.ntmps10
    go_wp2
    go_ret
    exact ⟨rfl, by go_grown⟩
  have hlen' : len ≤ 1048576 := by omega
  have HC := Lib.hid hC
  clear hC
  go_enter Try.func10, Try.ntmps10
  go_wp2_with fail
  refine (drawNoteValid_any _ _ _ _ HC.out hlen').mono ?_
  rintro e c1 ⟨r, s, x, o, t, d, rfl, hbd, hb⟩
  have hB : Below w.heap.size w c1 := by have h := below_pure (w := w) (by go_grown) hb; exact h
  have hsz := hB.size
  clear hb HC
  have e1 : noteB true 0 0 0 t true = false := by unfold noteB; simp
  have e2 : noteB false s x o 0 false = false := by unfold noteB inR; simp
  clear hbd
  go_wp2_with fail
  go_call (noteValid_any _ _ _ _ _ _ _) as e c2 ⟨rfl, hb⟩
  have k0 : Blk c2 (c1.heap.size) 29 #[.bool r, .int .i64 s, .int .i64 x, .int .i64 o, .int .i64 t, .bool d] := Blk.pure (by repeat' (first | (with_reducible assumption) | (with_reducible exact Blk.new _ _ _) | (with_reducible exact Blk.new' (by simp)) | (with_reducible refine Blk.alloc ?_ _) | (with_reducible refine Blk.drew ?_) | (with_reducible refine Blk.drewN ?_ _) | (with_reducible refine Blk.ne ?_ ?_ _) | omega | (simp; omega))) hb
  replace hB := below_pure (w := w) (by go_grown) hb
  clear hb; replace hsz := hB.size
  have k0_c0 : c2.cell? ⟨c1.heap.size, 0, none⟩ = some (.bool r) := Blk.get k0 rfl
  have k0_f0 : c2.frozen? ⟨c1.heap.size, 0, none⟩ = false := Blk.frozen k0 0
  have k0_c1 : c2.cell? ⟨c1.heap.size, 1, none⟩ = some (.int .i64 s) := Blk.get k0 rfl
  have k0_f1 : c2.frozen? ⟨c1.heap.size, 1, none⟩ = false := Blk.frozen k0 1
  have k0_c2 : c2.cell? ⟨c1.heap.size, 2, none⟩ = some (.int .i64 x) := Blk.get k0 rfl
  have k0_f2 : c2.frozen? ⟨c1.heap.size, 2, none⟩ = false := Blk.frozen k0 2
  have k0_c3 : c2.cell? ⟨c1.heap.size, 3, none⟩ = some (.int .i64 o) := Blk.get k0 rfl
  have k0_f3 : c2.frozen? ⟨c1.heap.size, 3, none⟩ = false := Blk.frozen k0 3
  have k0_c4 : c2.cell? ⟨c1.heap.size, 4, none⟩ = some (.int .i64 t) := Blk.get k0 rfl
  have k0_f4 : c2.frozen? ⟨c1.heap.size, 4, none⟩ = false := Blk.frozen k0 4
  have k0_c5 : c2.cell? ⟨c1.heap.size, 5, none⟩ = some (.bool d) := Blk.get k0 rfl
  have k0_f5 : c2.frozen? ⟨c1.heap.size, 5, none⟩ = false := Blk.frozen k0 5
  have k0_z : c1.heap.size < c2.heap.size := Blk.lt k0
  go_wp2_with fail
  go_call (specNoteValid_any _ _ _ _ _ _ _) as e c3 ⟨rfl, hb⟩
  replace k0 : Blk c3 (c1.heap.size) 29 #[.bool r, .int .i64 s, .int .i64 x, .int .i64 o, .int .i64 t, .bool d] := Blk.pure (by repeat' (first | (with_reducible assumption) | (with_reducible exact Blk.new _ _ _) | (with_reducible exact Blk.new' (by simp)) | (with_reducible refine Blk.alloc ?_ _) | (with_reducible refine Blk.drew ?_) | (with_reducible refine Blk.drewN ?_ _) | (with_reducible refine Blk.ne ?_ ?_ _) | omega | (simp; omega))) hb
  replace hB := below_pure (w := w) (by go_grown) hb
  clear hb; replace hsz := hB.size
  clear k0_c0 k0_f0 k0_c1 k0_f1 k0_c2 k0_f2 k0_c3 k0_f3 k0_c4 k0_f4 k0_c5 k0_f5 k0_z
  have k0_c0 : c3.cell? ⟨c1.heap.size, 0, none⟩ = some (.bool r) := Blk.get k0 rfl
  have k0_f0 : c3.frozen? ⟨c1.heap.size, 0, none⟩ = false := Blk.frozen k0 0
  have k0_c1 : c3.cell? ⟨c1.heap.size, 1, none⟩ = some (.int .i64 s) := Blk.get k0 rfl
  have k0_f1 : c3.frozen? ⟨c1.heap.size, 1, none⟩ = false := Blk.frozen k0 1
  have k0_c2 : c3.cell? ⟨c1.heap.size, 2, none⟩ = some (.int .i64 x) := Blk.get k0 rfl
  have k0_f2 : c3.frozen? ⟨c1.heap.size, 2, none⟩ = false := Blk.frozen k0 2
  have k0_c3 : c3.cell? ⟨c1.heap.size, 3, none⟩ = some (.int .i64 o) := Blk.get k0 rfl
  have k0_f3 : c3.frozen? ⟨c1.heap.size, 3, none⟩ = false := Blk.frozen k0 3
  have k0_c4 : c3.cell? ⟨c1.heap.size, 4, none⟩ = some (.int .i64 t) := Blk.get k0 rfl
  have k0_f4 : c3.frozen? ⟨c1.heap.size, 4, none⟩ = false := Blk.frozen k0 4
  have k0_c5 : c3.cell? ⟨c1.heap.size, 5, none⟩ = some (.bool d) := Blk.get k0 rfl
  have k0_f5 : c3.frozen? ⟨c1.heap.size, 5, none⟩ = false := Blk.frozen k0 5
  have k0_z : c1.heap.size < c3.heap.size := Blk.lt k0
  go_wp2_with fail
  go_call (noteValid_any _ _ _ _ _ _ _) as e c4 ⟨rfl, hb⟩
  replace k0 : Blk c4 (c1.heap.size) 29 #[.bool r, .int .i64 s, .int .i64 x, .int .i64 o, .int .i64 t, .bool d] := Blk.pure (by repeat' (first | (with_reducible assumption) | (with_reducible exact Blk.new _ _ _) | (with_reducible exact Blk.new' (by simp)) | (with_reducible refine Blk.alloc ?_ _) | (with_reducible refine Blk.drew ?_) | (with_reducible refine Blk.drewN ?_ _) | (with_reducible refine Blk.ne ?_ ?_ _) | omega | (simp; omega))) hb
  replace hB := below_pure (w := w) (by go_grown) hb
  clear hb; replace hsz := hB.size
  clear k0_c0 k0_f0 k0_c1 k0_f1 k0_c2 k0_f2 k0_c3 k0_f3 k0_c4 k0_f4 k0_c5 k0_f5 k0_z
  have k0_c0 : c4.cell? ⟨c1.heap.size, 0, none⟩ = some (.bool r) := Blk.get k0 rfl
  have k0_f0 : c4.frozen? ⟨c1.heap.size, 0, none⟩ = false := Blk.frozen k0 0
  have k0_c1 : c4.cell? ⟨c1.heap.size, 1, none⟩ = some (.int .i64 s) := Blk.get k0 rfl
  have k0_f1 : c4.frozen? ⟨c1.heap.size, 1, none⟩ = false := Blk.frozen k0 1
  have k0_c2 : c4.cell? ⟨c1.heap.size, 2, none⟩ = some (.int .i64 x) := Blk.get k0 rfl
  have k0_f2 : c4.frozen? ⟨c1.heap.size, 2, none⟩ = false := Blk.frozen k0 2
  have k0_c3 : c4.cell? ⟨c1.heap.size, 3, none⟩ = some (.int .i64 o) := Blk.get k0 rfl
  have k0_f3 : c4.frozen? ⟨c1.heap.size, 3, none⟩ = false := Blk.frozen k0 3
  have k0_c4 : c4.cell? ⟨c1.heap.size, 4, none⟩ = some (.int .i64 t) := Blk.get k0 rfl
  have k0_f4 : c4.frozen? ⟨c1.heap.size, 4, none⟩ = false := Blk.frozen k0 4
  have k0_c5 : c4.cell? ⟨c1.heap.size, 5, none⟩ = some (.bool d) := Blk.get k0 rfl
  have k0_f5 : c4.frozen? ⟨c1.heap.size, 5, none⟩ = false := Blk.frozen k0 5
  have k0_z : c1.heap.size < c4.heap.size := Blk.lt k0
  go_wp2_with fail
  go_call (noteValid_any _ _ _ _ _ _ _) as e c5 ⟨rfl, hb⟩
  replace k0 : Blk c5 (c1.heap.size) 29 #[.bool r, .int .i64 s, .int .i64 x, .int .i64 o, .int .i64 t, .bool d] := Blk.pure (by repeat' (first | (with_reducible assumption) | (with_reducible exact Blk.new _ _ _) | (with_reducible exact Blk.new' (by simp)) | (with_reducible refine Blk.alloc ?_ _) | (with_reducible refine Blk.drew ?_) | (with_reducible refine Blk.drewN ?_ _) | (with_reducible refine Blk.ne ?_ ?_ _) | omega | (simp; omega))) hb
  replace hB := below_pure (w := w) (by go_grown) hb
  clear hb; replace hsz := hB.size
  clear k0_c0 k0_f0 k0_c1 k0_f1 k0_c2 k0_f2 k0_c3 k0_f3 k0_c4 k0_f4 k0_c5 k0_f5 k0_z
  have k0_c0 : c5.cell? ⟨c1.heap.size, 0, none⟩ = some (.bool r) := Blk.get k0 rfl
  have k0_f0 : c5.frozen? ⟨c1.heap.size, 0, none⟩ = false := Blk.frozen k0 0
  have k0_c1 : c5.cell? ⟨c1.heap.size, 1, none⟩ = some (.int .i64 s) := Blk.get k0 rfl
  have k0_f1 : c5.frozen? ⟨c1.heap.size, 1, none⟩ = false := Blk.frozen k0 1
  have k0_c2 : c5.cell? ⟨c1.heap.size, 2, none⟩ = some (.int .i64 x) := Blk.get k0 rfl
  have k0_f2 : c5.frozen? ⟨c1.heap.size, 2, none⟩ = false := Blk.frozen k0 2
  have k0_c3 : c5.cell? ⟨c1.heap.size, 3, none⟩ = some (.int .i64 o) := Blk.get k0 rfl
  have k0_f3 : c5.frozen? ⟨c1.heap.size, 3, none⟩ = false := Blk.frozen k0 3
  have k0_c4 : c5.cell? ⟨c1.heap.size, 4, none⟩ = some (.int .i64 t) := Blk.get k0 rfl
  have k0_f4 : c5.frozen? ⟨c1.heap.size, 4, none⟩ = false := Blk.frozen k0 4
  have k0_c5 : c5.cell? ⟨c1.heap.size, 5, none⟩ = some (.bool d) := Blk.get k0 rfl
  have k0_f5 : c5.frozen? ⟨c1.heap.size, 5, none⟩ = false := Blk.frozen k0 5
  have k0_z : c1.heap.size < c5.heap.size := Blk.lt k0
  go_wp2_with fail
  go_call (alive_any _) as e c6 ⟨rfl, hb⟩
  replace k0 : Blk c6 (c1.heap.size) 29 #[.bool r, .int .i64 s, .int .i64 x, .int .i64 o, .int .i64 t, .bool d] := Blk.pure (by repeat' (first | (with_reducible assumption) | (with_reducible exact Blk.new _ _ _) | (with_reducible exact Blk.new' (by simp)) | (with_reducible refine Blk.alloc ?_ _) | (with_reducible refine Blk.drew ?_) | (with_reducible refine Blk.drewN ?_ _) | (with_reducible refine Blk.ne ?_ ?_ _) | omega | (simp; omega))) hb
  replace hB := below_pure (w := w) (by go_grown) hb
  clear hb; replace hsz := hB.size
  clear k0_c0 k0_f0 k0_c1 k0_f1 k0_c2 k0_f2 k0_c3 k0_f3 k0_c4 k0_f4 k0_c5 k0_f5 k0_z
  have k0_c0 : c6.cell? ⟨c1.heap.size, 0, none⟩ = some (.bool r) := Blk.get k0 rfl
  have k0_f0 : c6.frozen? ⟨c1.heap.size, 0, none⟩ = false := Blk.frozen k0 0
  have k0_c1 : c6.cell? ⟨c1.heap.size, 1, none⟩ = some (.int .i64 s) := Blk.get k0 rfl
  have k0_f1 : c6.frozen? ⟨c1.heap.size, 1, none⟩ = false := Blk.frozen k0 1
  have k0_c2 : c6.cell? ⟨c1.heap.size, 2, none⟩ = some (.int .i64 x) := Blk.get k0 rfl
  have k0_f2 : c6.frozen? ⟨c1.heap.size, 2, none⟩ = false := Blk.frozen k0 2
  have k0_c3 : c6.cell? ⟨c1.heap.size, 3, none⟩ = some (.int .i64 o) := Blk.get k0 rfl
  have k0_f3 : c6.frozen? ⟨c1.heap.size, 3, none⟩ = false := Blk.frozen k0 3
  have k0_c4 : c6.cell? ⟨c1.heap.size, 4, none⟩ = some (.int .i64 t) := Blk.get k0 rfl
  have k0_f4 : c6.frozen? ⟨c1.heap.size, 4, none⟩ = false := Blk.frozen k0 4
  have k0_c5 : c6.cell? ⟨c1.heap.size, 5, none⟩ = some (.bool d) := Blk.get k0 rfl
  have k0_f5 : c6.frozen? ⟨c1.heap.size, 5, none⟩ = false := Blk.frozen k0 5
  have k0_z : c1.heap.size < c6.heap.size := Blk.lt k0
  go_wp2
  go_ret
  exact ⟨rfl, by go_grown⟩
end Go.Proofs.Ytmkkhbplfedpoaa

/- The walk of the law FnValueValid: it returns true, and nothing that was there turns. No condition. -/
import Derived.Test.YtgbnaimkpnoeoaaDx
import Derived.Test.YtgbnaimkpnoeoaaAl
namespace Go.Proofs.Ytgbnaimkpnoeoaa
open Go.RowKit

set_option maxHeartbeats 2000000 in
set_option maxRecDepth 100000 in
theorem fnValueValid_walk (a : Option Addr) (len cap : Nat) (w : World) (hC : Code' w a len cap) :
    Calls Try.prog 8 #[.slice a len cap] w (Gives (.bool true) w) := by
  by_cases hlen : 1048576 < len
  · have hcap : len ≤ 9223372036854775807 := by have h1 := hC.2.1; have h2 := hC.2.2; unfold maxLen at h2; omega
    go_enter Try.func8, Try.ntmps8
    go_wp2
    go_ret
    exact ⟨rfl, by go_grown⟩
  have hlen' : len ≤ 1048576 := by omega
  have HC := Lib.hid hC
  clear hC
  go_enter Try.func8, Try.ntmps8
  go_wp2_with fail
  refine (drawValueValid_any _ _ _ _ HC.out hlen').mono ?_
  rintro e c1 ⟨b, d, t, rfl, hb⟩
  have hB : Below w.heap.size w c1 := by have h := below_pure (w := w) (by go_grown) hb; exact h
  have hsz := hB.size
  clear hb HC
  have e1 : valB b 3 1 = false := by unfold valB; rw [show inR 3 0 2 = false from rfl]; simp
  have e2 : valB 3 0 1 = false := rfl
  go_wp2_with fail
  go_call (valueValid_any _ _ _ _) as e c2 ⟨rfl, hb⟩
  have k0 : Blk c2 (c1.heap.size) 26 #[.int .i64 b, .int .i64 d, .int .i64 t] := Blk.pure (by repeat' (first | (with_reducible assumption) | (with_reducible exact Blk.new _ _ _) | (with_reducible exact Blk.new' (by simp)) | (with_reducible refine Blk.alloc ?_ _) | (with_reducible refine Blk.drew ?_) | (with_reducible refine Blk.drewN ?_ _) | (with_reducible refine Blk.ne ?_ ?_ _) | omega | (simp; omega))) hb
  replace hB := below_pure (w := w) (by go_grown) hb
  clear hb; replace hsz := hB.size
  have k0_c0 : c2.cell? ⟨c1.heap.size, 0, none⟩ = some (.int .i64 b) := Blk.get k0 rfl
  have k0_f0 : c2.frozen? ⟨c1.heap.size, 0, none⟩ = false := Blk.frozen k0 0
  have k0_c1 : c2.cell? ⟨c1.heap.size, 1, none⟩ = some (.int .i64 d) := Blk.get k0 rfl
  have k0_f1 : c2.frozen? ⟨c1.heap.size, 1, none⟩ = false := Blk.frozen k0 1
  have k0_c2 : c2.cell? ⟨c1.heap.size, 2, none⟩ = some (.int .i64 t) := Blk.get k0 rfl
  have k0_f2 : c2.frozen? ⟨c1.heap.size, 2, none⟩ = false := Blk.frozen k0 2
  have k0_z : c1.heap.size < c2.heap.size := Blk.lt k0
  go_wp2_with fail
  go_call (specValueValid_any _ _ _ _) as e c3 ⟨rfl, hb⟩
  replace k0 : Blk c3 (c1.heap.size) 26 #[.int .i64 b, .int .i64 d, .int .i64 t] := Blk.pure (by repeat' (first | (with_reducible assumption) | (with_reducible exact Blk.new _ _ _) | (with_reducible exact Blk.new' (by simp)) | (with_reducible refine Blk.alloc ?_ _) | (with_reducible refine Blk.drew ?_) | (with_reducible refine Blk.drewN ?_ _) | (with_reducible refine Blk.ne ?_ ?_ _) | omega | (simp; omega))) hb
  replace hB := below_pure (w := w) (by go_grown) hb
  clear hb; replace hsz := hB.size
  clear k0_c0 k0_f0 k0_c1 k0_f1 k0_c2 k0_f2 k0_z
  have k0_c0 : c3.cell? ⟨c1.heap.size, 0, none⟩ = some (.int .i64 b) := Blk.get k0 rfl
  have k0_f0 : c3.frozen? ⟨c1.heap.size, 0, none⟩ = false := Blk.frozen k0 0
  have k0_c1 : c3.cell? ⟨c1.heap.size, 1, none⟩ = some (.int .i64 d) := Blk.get k0 rfl
  have k0_f1 : c3.frozen? ⟨c1.heap.size, 1, none⟩ = false := Blk.frozen k0 1
  have k0_c2 : c3.cell? ⟨c1.heap.size, 2, none⟩ = some (.int .i64 t) := Blk.get k0 rfl
  have k0_f2 : c3.frozen? ⟨c1.heap.size, 2, none⟩ = false := Blk.frozen k0 2
  have k0_z : c1.heap.size < c3.heap.size := Blk.lt k0
  go_wp2_with fail
  go_call (valueValid_any _ _ _ _) as e c4 ⟨rfl, hb⟩
  replace k0 : Blk c4 (c1.heap.size) 26 #[.int .i64 b, .int .i64 d, .int .i64 t] := Blk.pure (by repeat' (first | (with_reducible assumption) | (with_reducible exact Blk.new _ _ _) | (with_reducible exact Blk.new' (by simp)) | (with_reducible refine Blk.alloc ?_ _) | (with_reducible refine Blk.drew ?_) | (with_reducible refine Blk.drewN ?_ _) | (with_reducible refine Blk.ne ?_ ?_ _) | omega | (simp; omega))) hb
  replace hB := below_pure (w := w) (by go_grown) hb
  clear hb; replace hsz := hB.size
  clear k0_c0 k0_f0 k0_c1 k0_f1 k0_c2 k0_f2 k0_z
  have k0_c0 : c4.cell? ⟨c1.heap.size, 0, none⟩ = some (.int .i64 b) := Blk.get k0 rfl
  have k0_f0 : c4.frozen? ⟨c1.heap.size, 0, none⟩ = false := Blk.frozen k0 0
  have k0_c1 : c4.cell? ⟨c1.heap.size, 1, none⟩ = some (.int .i64 d) := Blk.get k0 rfl
  have k0_f1 : c4.frozen? ⟨c1.heap.size, 1, none⟩ = false := Blk.frozen k0 1
  have k0_c2 : c4.cell? ⟨c1.heap.size, 2, none⟩ = some (.int .i64 t) := Blk.get k0 rfl
  have k0_f2 : c4.frozen? ⟨c1.heap.size, 2, none⟩ = false := Blk.frozen k0 2
  have k0_z : c1.heap.size < c4.heap.size := Blk.lt k0
  go_wp2_with fail
  go_call (valueValid_any _ _ _ _) as e c5 ⟨rfl, hb⟩
  replace k0 : Blk c5 (c1.heap.size) 26 #[.int .i64 b, .int .i64 d, .int .i64 t] := Blk.pure (by repeat' (first | (with_reducible assumption) | (with_reducible exact Blk.new _ _ _) | (with_reducible exact Blk.new' (by simp)) | (with_reducible refine Blk.alloc ?_ _) | (with_reducible refine Blk.drew ?_) | (with_reducible refine Blk.drewN ?_ _) | (with_reducible refine Blk.ne ?_ ?_ _) | omega | (simp; omega))) hb
  replace hB := below_pure (w := w) (by go_grown) hb
  clear hb; replace hsz := hB.size
  clear k0_c0 k0_f0 k0_c1 k0_f1 k0_c2 k0_f2 k0_z
  have k0_c0 : c5.cell? ⟨c1.heap.size, 0, none⟩ = some (.int .i64 b) := Blk.get k0 rfl
  have k0_f0 : c5.frozen? ⟨c1.heap.size, 0, none⟩ = false := Blk.frozen k0 0
  have k0_c1 : c5.cell? ⟨c1.heap.size, 1, none⟩ = some (.int .i64 d) := Blk.get k0 rfl
  have k0_f1 : c5.frozen? ⟨c1.heap.size, 1, none⟩ = false := Blk.frozen k0 1
  have k0_c2 : c5.cell? ⟨c1.heap.size, 2, none⟩ = some (.int .i64 t) := Blk.get k0 rfl
  have k0_f2 : c5.frozen? ⟨c1.heap.size, 2, none⟩ = false := Blk.frozen k0 2
  have k0_z : c1.heap.size < c5.heap.size := Blk.lt k0
  go_wp2_with fail
  go_call (alive_any _) as e c6 ⟨rfl, hb⟩
  replace k0 : Blk c6 (c1.heap.size) 26 #[.int .i64 b, .int .i64 d, .int .i64 t] := Blk.pure (by repeat' (first | (with_reducible assumption) | (with_reducible exact Blk.new _ _ _) | (with_reducible exact Blk.new' (by simp)) | (with_reducible refine Blk.alloc ?_ _) | (with_reducible refine Blk.drew ?_) | (with_reducible refine Blk.drewN ?_ _) | (with_reducible refine Blk.ne ?_ ?_ _) | omega | (simp; omega))) hb
  replace hB := below_pure (w := w) (by go_grown) hb
  clear hb; replace hsz := hB.size
  clear k0_c0 k0_f0 k0_c1 k0_f1 k0_c2 k0_f2 k0_z
  have k0_c0 : c6.cell? ⟨c1.heap.size, 0, none⟩ = some (.int .i64 b) := Blk.get k0 rfl
  have k0_f0 : c6.frozen? ⟨c1.heap.size, 0, none⟩ = false := Blk.frozen k0 0
  have k0_c1 : c6.cell? ⟨c1.heap.size, 1, none⟩ = some (.int .i64 d) := Blk.get k0 rfl
  have k0_f1 : c6.frozen? ⟨c1.heap.size, 1, none⟩ = false := Blk.frozen k0 1
  have k0_c2 : c6.cell? ⟨c1.heap.size, 2, none⟩ = some (.int .i64 t) := Blk.get k0 rfl
  have k0_f2 : c6.frozen? ⟨c1.heap.size, 2, none⟩ = false := Blk.frozen k0 2
  have k0_z : c1.heap.size < c6.heap.size := Blk.lt k0
  go_wp2
  go_ret
  exact ⟨rfl, by go_grown⟩
end Go.Proofs.Ytgbnaimkpnoeoaa

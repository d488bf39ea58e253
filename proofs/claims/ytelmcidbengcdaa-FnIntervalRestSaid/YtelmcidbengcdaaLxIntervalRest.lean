/- The walk of the law FnIntervalRest: it returns true, and nothing that was there turns. No condition. -/
import Derived.Test.YtelmcidbengcdaaDi
import Derived.Test.YtelmcidbengcdaaAl
import Derived.Test.YtelmcidbengcdaaIm
namespace Go.Proofs.Ytelmcidbengcdaa
open Go.RowKit

set_option maxHeartbeats 2000000 in
set_option maxRecDepth 100000 in
theorem fnIntervalRest_walk (a : Option Addr) (len cap : Nat) (w : World) (hC : Code' w a len cap) :
    Calls Try.prog 12 #[.slice a len cap] w (Gives (.bool true) w) := by
  by_cases hlen : 1048576 < len
  · have hcap : len ≤ 9223372036854775807 := by have h1 := hC.2.1; have h2 := hC.2.2; unfold maxLen at h2; omega
    go_enter Try.func12, Try.ntmps12
    go_wp2
    go_ret
    exact ⟨rfl, by go_grown⟩
  have hlen' : len ≤ 1048576 := by omega
  have HC := Lib.hid hC
  clear hC
  go_enter Try.func12, Try.ntmps12
  go_wp2_with fail
  refine (drawIntervalRest_any _ _ _ _ HC.out hlen').mono ?_
  rintro e c1 ⟨s, h, rfl, ⟨s0, s1, h0, h1⟩, hb⟩
  have hB : Below w.heap.size w c1 := by have h := below_pure (w := w) (by go_grown) hb; exact h
  have hsz := hB.size
  clear hb HC
  cases hr : restB s h
  · have e1 := restS_f hr
    have e2 := restH_f hr
    go_wp2_with fail
    go_call (intervalRest_any _ _ _) as e c2 ⟨rfl, hb⟩
    have k0 : Blk c2 (c1.heap.size) 25 #[.int .i64 s, .int .i64 h] := Blk.pure (by repeat' (first | (with_reducible assumption) | (with_reducible exact Blk.new _ _ _) | (with_reducible exact Blk.new' (by simp)) | (with_reducible refine Blk.alloc ?_ _) | (with_reducible refine Blk.drew ?_) | (with_reducible refine Blk.drewN ?_ _) | (with_reducible refine Blk.ne ?_ ?_ _) | omega | (simp; omega))) hb
    replace hB := below_pure (w := w) (by go_grown) hb
    clear hb; replace hsz := hB.size
    have k0_c0 : c2.cell? ⟨c1.heap.size, 0, none⟩ = some (.int .i64 s) := Blk.get k0 rfl
    have k0_f0 : c2.frozen? ⟨c1.heap.size, 0, none⟩ = false := Blk.frozen k0 0
    have k0_c1 : c2.cell? ⟨c1.heap.size, 1, none⟩ = some (.int .i64 h) := Blk.get k0 rfl
    have k0_f1 : c2.frozen? ⟨c1.heap.size, 1, none⟩ = false := Blk.frozen k0 1
    have k0_z : c1.heap.size < c2.heap.size := Blk.lt k0
    go_wp2_with fail
    go_call (specIntervalRest_any _ _ _) as e c3 ⟨rfl, hb⟩
    replace k0 : Blk c3 (c1.heap.size) 25 #[.int .i64 s, .int .i64 h] := Blk.pure (by repeat' (first | (with_reducible assumption) | (with_reducible exact Blk.new _ _ _) | (with_reducible exact Blk.new' (by simp)) | (with_reducible refine Blk.alloc ?_ _) | (with_reducible refine Blk.drew ?_) | (with_reducible refine Blk.drewN ?_ _) | (with_reducible refine Blk.ne ?_ ?_ _) | omega | (simp; omega))) hb
    have k1 : Blk c3 (c2.heap.size) 25 #[.int .i64 0, .int .i64 0] := Blk.pure (by repeat' (first | (with_reducible assumption) | (with_reducible exact Blk.new _ _ _) | (with_reducible exact Blk.new' (by simp)) | (with_reducible refine Blk.alloc ?_ _) | (with_reducible refine Blk.drew ?_) | (with_reducible refine Blk.drewN ?_ _) | (with_reducible refine Blk.ne ?_ ?_ _) | omega | (simp; omega))) hb
    replace hB := below_pure (w := w) (by go_grown) hb
    clear hb; replace hsz := hB.size
    clear k0_c0 k0_f0 k0_c1 k0_f1 k0_z
    have k0_c0 : c3.cell? ⟨c1.heap.size, 0, none⟩ = some (.int .i64 s) := Blk.get k0 rfl
    have k0_f0 : c3.frozen? ⟨c1.heap.size, 0, none⟩ = false := Blk.frozen k0 0
    have k0_c1 : c3.cell? ⟨c1.heap.size, 1, none⟩ = some (.int .i64 h) := Blk.get k0 rfl
    have k0_f1 : c3.frozen? ⟨c1.heap.size, 1, none⟩ = false := Blk.frozen k0 1
    have k0_z : c1.heap.size < c3.heap.size := Blk.lt k0
    have k1_c0 : c3.cell? ⟨c2.heap.size, 0, none⟩ = some (.int .i64 0) := Blk.get k1 rfl
    have k1_f0 : c3.frozen? ⟨c2.heap.size, 0, none⟩ = false := Blk.frozen k1 0
    have k1_c1 : c3.cell? ⟨c2.heap.size, 1, none⟩ = some (.int .i64 0) := Blk.get k1 rfl
    have k1_f1 : c3.frozen? ⟨c2.heap.size, 1, none⟩ = false := Blk.frozen k1 1
    have k1_z : c2.heap.size < c3.heap.size := Blk.lt k1
    go_wp2_with fail
    go_call (alive_any _) as e c4 ⟨rfl, hb⟩
    replace k0 : Blk c4 (c1.heap.size) 25 #[.int .i64 s, .int .i64 h] := Blk.pure (by repeat' (first | (with_reducible assumption) | (with_reducible exact Blk.new _ _ _) | (with_reducible exact Blk.new' (by simp)) | (with_reducible refine Blk.alloc ?_ _) | (with_reducible refine Blk.drew ?_) | (with_reducible refine Blk.drewN ?_ _) | (with_reducible refine Blk.ne ?_ ?_ _) | omega | (simp; omega))) hb
    replace k1 : Blk c4 (c2.heap.size) 25 #[.int .i64 0, .int .i64 0] := Blk.pure (by repeat' (first | (with_reducible assumption) | (with_reducible exact Blk.new _ _ _) | (with_reducible exact Blk.new' (by simp)) | (with_reducible refine Blk.alloc ?_ _) | (with_reducible refine Blk.drew ?_) | (with_reducible refine Blk.drewN ?_ _) | (with_reducible refine Blk.ne ?_ ?_ _) | omega | (simp; omega))) hb
    have k2 : Blk c4 (c3.heap.size) 25 #[.int .i64 0, .int .i64 0] := Blk.pure (by repeat' (first | (with_reducible assumption) | (with_reducible exact Blk.new _ _ _) | (with_reducible exact Blk.new' (by simp)) | (with_reducible refine Blk.alloc ?_ _) | (with_reducible refine Blk.drew ?_) | (with_reducible refine Blk.drewN ?_ _) | (with_reducible refine Blk.ne ?_ ?_ _) | omega | (simp; omega))) hb
    replace hB := below_pure (w := w) (by go_grown) hb
    clear hb; replace hsz := hB.size
    clear k0_c0 k0_f0 k0_c1 k0_f1 k0_z k1_c0 k1_f0 k1_c1 k1_f1 k1_z
    have k0_c0 : c4.cell? ⟨c1.heap.size, 0, none⟩ = some (.int .i64 s) := Blk.get k0 rfl
    have k0_f0 : c4.frozen? ⟨c1.heap.size, 0, none⟩ = false := Blk.frozen k0 0
    have k0_c1 : c4.cell? ⟨c1.heap.size, 1, none⟩ = some (.int .i64 h) := Blk.get k0 rfl
    have k0_f1 : c4.frozen? ⟨c1.heap.size, 1, none⟩ = false := Blk.frozen k0 1
    have k0_z : c1.heap.size < c4.heap.size := Blk.lt k0
    have k1_c0 : c4.cell? ⟨c2.heap.size, 0, none⟩ = some (.int .i64 0) := Blk.get k1 rfl
    have k1_f0 : c4.frozen? ⟨c2.heap.size, 0, none⟩ = false := Blk.frozen k1 0
    have k1_c1 : c4.cell? ⟨c2.heap.size, 1, none⟩ = some (.int .i64 0) := Blk.get k1 rfl
    have k1_f1 : c4.frozen? ⟨c2.heap.size, 1, none⟩ = false := Blk.frozen k1 1
    have k1_z : c2.heap.size < c4.heap.size := Blk.lt k1
    have k2_c0 : c4.cell? ⟨c3.heap.size, 0, none⟩ = some (.int .i64 0) := Blk.get k2 rfl
    have k2_f0 : c4.frozen? ⟨c3.heap.size, 0, none⟩ = false := Blk.frozen k2 0
    have k2_c1 : c4.cell? ⟨c3.heap.size, 1, none⟩ = some (.int .i64 0) := Blk.get k2 rfl
    have k2_f1 : c4.frozen? ⟨c3.heap.size, 1, none⟩ = false := Blk.frozen k2 1
    have k2_z : c3.heap.size < c4.heap.size := Blk.lt k2
    go_wp2
    go_ret
    exact ⟨rfl, by go_grown⟩
  · have e1 := restS_t hr
    have e2 := restH_t hr
    obtain ⟨e3, e4, e5⟩ := rest_rest hr
    obtain ⟨i1, i2, i3, i4⟩ := restB_t hr
    obtain ⟨q0, q1, q2, q3, q4, q5⟩ := intB_t i1
    have f1 : 7 - s + s = 7 := by omega
    have f2 : 12 - h + h = 12 := by omega
    go_wp2_with fail
    go_call (intervalRest_any _ _ _) as e c2 ⟨rfl, hb⟩
    have k0 : Blk c2 (c1.heap.size) 25 #[.int .i64 s, .int .i64 h] := Blk.pure (by repeat' (first | (with_reducible assumption) | (with_reducible exact Blk.new _ _ _) | (with_reducible exact Blk.new' (by simp)) | (with_reducible refine Blk.alloc ?_ _) | (with_reducible refine Blk.drew ?_) | (with_reducible refine Blk.drewN ?_ _) | (with_reducible refine Blk.ne ?_ ?_ _) | omega | (simp; omega))) hb
    replace hB := below_pure (w := w) (by go_grown) hb
    clear hb; replace hsz := hB.size
    have k0_c0 : c2.cell? ⟨c1.heap.size, 0, none⟩ = some (.int .i64 s) := Blk.get k0 rfl
    have k0_f0 : c2.frozen? ⟨c1.heap.size, 0, none⟩ = false := Blk.frozen k0 0
    have k0_c1 : c2.cell? ⟨c1.heap.size, 1, none⟩ = some (.int .i64 h) := Blk.get k0 rfl
    have k0_f1 : c2.frozen? ⟨c1.heap.size, 1, none⟩ = false := Blk.frozen k0 1
    have k0_z : c1.heap.size < c2.heap.size := Blk.lt k0
    go_wp2_with fail
    go_call (specIntervalRest_any _ _ _) as e c3 ⟨rfl, hb⟩
    replace k0 : Blk c3 (c1.heap.size) 25 #[.int .i64 s, .int .i64 h] := Blk.pure (by repeat' (first | (with_reducible assumption) | (with_reducible exact Blk.new _ _ _) | (with_reducible exact Blk.new' (by simp)) | (with_reducible refine Blk.alloc ?_ _) | (with_reducible refine Blk.drew ?_) | (with_reducible refine Blk.drewN ?_ _) | (with_reducible refine Blk.ne ?_ ?_ _) | omega | (simp; omega))) hb
    have k1 : Blk c3 (c2.heap.size) 25 #[.int .i64 (7 - s), .int .i64 (12 - h)] := Blk.pure (by repeat' (first | (with_reducible assumption) | (with_reducible exact Blk.new _ _ _) | (with_reducible exact Blk.new' (by simp)) | (with_reducible refine Blk.alloc ?_ _) | (with_reducible refine Blk.drew ?_) | (with_reducible refine Blk.drewN ?_ _) | (with_reducible refine Blk.ne ?_ ?_ _) | omega | (simp; omega))) hb
    replace hB := below_pure (w := w) (by go_grown) hb
    clear hb; replace hsz := hB.size
    clear k0_c0 k0_f0 k0_c1 k0_f1 k0_z
    have k0_c0 : c3.cell? ⟨c1.heap.size, 0, none⟩ = some (.int .i64 s) := Blk.get k0 rfl
    have k0_f0 : c3.frozen? ⟨c1.heap.size, 0, none⟩ = false := Blk.frozen k0 0
    have k0_c1 : c3.cell? ⟨c1.heap.size, 1, none⟩ = some (.int .i64 h) := Blk.get k0 rfl
    have k0_f1 : c3.frozen? ⟨c1.heap.size, 1, none⟩ = false := Blk.frozen k0 1
    have k0_z : c1.heap.size < c3.heap.size := Blk.lt k0
    have k1_c0 : c3.cell? ⟨c2.heap.size, 0, none⟩ = some (.int .i64 (7 - s)) := Blk.get k1 rfl
    have k1_f0 : c3.frozen? ⟨c2.heap.size, 0, none⟩ = false := Blk.frozen k1 0
    have k1_c1 : c3.cell? ⟨c2.heap.size, 1, none⟩ = some (.int .i64 (12 - h)) := Blk.get k1 rfl
    have k1_f1 : c3.frozen? ⟨c2.heap.size, 1, none⟩ = false := Blk.frozen k1 1
    have k1_z : c2.heap.size < c3.heap.size := Blk.lt k1
    go_wp2_with fail
    go_call (intervalRest_any _ _ _) as e c4 ⟨rfl, hb⟩
    replace k0 : Blk c4 (c1.heap.size) 25 #[.int .i64 s, .int .i64 h] := Blk.pure (by repeat' (first | (with_reducible assumption) | (with_reducible exact Blk.new _ _ _) | (with_reducible exact Blk.new' (by simp)) | (with_reducible refine Blk.alloc ?_ _) | (with_reducible refine Blk.drew ?_) | (with_reducible refine Blk.drewN ?_ _) | (with_reducible refine Blk.ne ?_ ?_ _) | omega | (simp; omega))) hb
    replace k1 : Blk c4 (c2.heap.size) 25 #[.int .i64 (7 - s), .int .i64 (12 - h)] := Blk.pure (by repeat' (first | (with_reducible assumption) | (with_reducible exact Blk.new _ _ _) | (with_reducible exact Blk.new' (by simp)) | (with_reducible refine Blk.alloc ?_ _) | (with_reducible refine Blk.drew ?_) | (with_reducible refine Blk.drewN ?_ _) | (with_reducible refine Blk.ne ?_ ?_ _) | omega | (simp; omega))) hb
    have k2 : Blk c4 (c3.heap.size) 25 #[.int .i64 (7 - s), .int .i64 (12 - h)] := Blk.pure (by repeat' (first | (with_reducible assumption) | (with_reducible exact Blk.new _ _ _) | (with_reducible exact Blk.new' (by simp)) | (with_reducible refine Blk.alloc ?_ _) | (with_reducible refine Blk.drew ?_) | (with_reducible refine Blk.drewN ?_ _) | (with_reducible refine Blk.ne ?_ ?_ _) | omega | (simp; omega))) hb
    replace hB := below_pure (w := w) (by go_grown) hb
    clear hb; replace hsz := hB.size
    clear k0_c0 k0_f0 k0_c1 k0_f1 k0_z k1_c0 k1_f0 k1_c1 k1_f1 k1_z
    have k0_c0 : c4.cell? ⟨c1.heap.size, 0, none⟩ = some (.int .i64 s) := Blk.get k0 rfl
    have k0_f0 : c4.frozen? ⟨c1.heap.size, 0, none⟩ = false := Blk.frozen k0 0
    have k0_c1 : c4.cell? ⟨c1.heap.size, 1, none⟩ = some (.int .i64 h) := Blk.get k0 rfl
    have k0_f1 : c4.frozen? ⟨c1.heap.size, 1, none⟩ = false := Blk.frozen k0 1
    have k0_z : c1.heap.size < c4.heap.size := Blk.lt k0
    have k1_c0 : c4.cell? ⟨c2.heap.size, 0, none⟩ = some (.int .i64 (7 - s)) := Blk.get k1 rfl
    have k1_f0 : c4.frozen? ⟨c2.heap.size, 0, none⟩ = false := Blk.frozen k1 0
    have k1_c1 : c4.cell? ⟨c2.heap.size, 1, none⟩ = some (.int .i64 (12 - h)) := Blk.get k1 rfl
    have k1_f1 : c4.frozen? ⟨c2.heap.size, 1, none⟩ = false := Blk.frozen k1 1
    have k1_z : c2.heap.size < c4.heap.size := Blk.lt k1
    have k2_c0 : c4.cell? ⟨c3.heap.size, 0, none⟩ = some (.int .i64 (7 - s)) := Blk.get k2 rfl
    have k2_f0 : c4.frozen? ⟨c3.heap.size, 0, none⟩ = false := Blk.frozen k2 0
    have k2_c1 : c4.cell? ⟨c3.heap.size, 1, none⟩ = some (.int .i64 (12 - h)) := Blk.get k2 rfl
    have k2_f1 : c4.frozen? ⟨c3.heap.size, 1, none⟩ = false := Blk.frozen k2 1
    have k2_z : c3.heap.size < c4.heap.size := Blk.lt k2
    go_wp2
    go_ret
    exact ⟨rfl, by go_grown⟩
end Go.Proofs.Ytelmcidbengcdaa

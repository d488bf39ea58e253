/- The walk of the law FnIntervalQuality: it returns true, and nothing that was there turns. No condition. -/
import Derived.Test.YtelmcidbengcdaaDi
import Derived.Test.YtelmcidbengcdaaAl
import Derived.Test.YtelmcidbengcdaaIl
namespace Go.Proofs.Ytelmcidbengcdaa
open Go.RowKit

set_option maxHeartbeats 2000000 in
set_option maxRecDepth 100000 in
theorem fnIntervalQuality_walk (a : Option Addr) (len cap : Nat) (w : World) (hC : Code' w a len cap) :
    Calls Try.prog 10 #[.slice a len cap] w (Gives (.bool true) w) := by
  by_cases hlen : 1048576 < len
  · have hcap : len ≤ 9223372036854775807 := by have h1 := hC.2.1; have h2 := hC.2.2; unfold maxLen at h2; omega
    go_enter Try.func10, Try.ntmps10
    go_wp2
    go_ret
    exact ⟨rfl, by go_grown⟩
  have hlen' : len ≤ 1048576 := by omega
  have HC := Lib.hid hC
  clear hC
  go_enter Try.func10, Try.ntmps10
  go_wp2_with fail
  refine (drawIntervalQuality_any _ _ _ _ HC.out hlen').mono ?_
  rintro e c1 ⟨s, h, rfl, ⟨s0, s1, h0, h1⟩, hb⟩
  have hB : Below w.heap.size w c1 := by have h := below_pure (w := w) (by go_grown) hb; exact h
  have hsz := hB.size
  clear hb HC
  cases hi : intB s h
  · have ev := qualV_f hi
    go_wp2_with fail
    go_call (intervalQuality_any _ _ _) as e c2 ⟨rfl, hb⟩
    have k0 : Blk c2 (c1.heap.size) 25 #[.int .i64 s, .int .i64 h] := Blk.pure (by repeat' (first | (with_reducible assumption) | (with_reducible exact Blk.new _ _ _) | (with_reducible exact Blk.new' (by simp)) | (with_reducible refine Blk.alloc ?_ _) | (with_reducible refine Blk.drew ?_) | (with_reducible refine Blk.drewN ?_ _) | (with_reducible refine Blk.ne ?_ ?_ _) | omega | (simp; omega))) hb
    replace hB := below_pure (w := w) (by go_grown) hb
    clear hb; replace hsz := hB.size
    have k0_c0 : c2.cell? ⟨c1.heap.size, 0, none⟩ = some (.int .i64 s) := Blk.get k0 rfl
    have k0_f0 : c2.frozen? ⟨c1.heap.size, 0, none⟩ = false := Blk.frozen k0 0
    have k0_c1 : c2.cell? ⟨c1.heap.size, 1, none⟩ = some (.int .i64 h) := Blk.get k0 rfl
    have k0_f1 : c2.frozen? ⟨c1.heap.size, 1, none⟩ = false := Blk.frozen k0 1
    have k0_z : c1.heap.size < c2.heap.size := Blk.lt k0
    go_wp2_with fail
    go_call (specIntervalQuality_any _ _ _) as e c3 ⟨rfl, hb⟩
    replace k0 : Blk c3 (c1.heap.size) 25 #[.int .i64 s, .int .i64 h] := Blk.pure (by repeat' (first | (with_reducible assumption) | (with_reducible exact Blk.new _ _ _) | (with_reducible exact Blk.new' (by simp)) | (with_reducible refine Blk.alloc ?_ _) | (with_reducible refine Blk.drew ?_) | (with_reducible refine Blk.drewN ?_ _) | (with_reducible refine Blk.ne ?_ ?_ _) | omega | (simp; omega))) hb
    replace hB := below_pure (w := w) (by go_grown) hb
    clear hb; replace hsz := hB.size
    clear k0_c0 k0_f0 k0_c1 k0_f1 k0_z
    have k0_c0 : c3.cell? ⟨c1.heap.size, 0, none⟩ = some (.int .i64 s) := Blk.get k0 rfl
    have k0_f0 : c3.frozen? ⟨c1.heap.size, 0, none⟩ = false := Blk.frozen k0 0
    have k0_c1 : c3.cell? ⟨c1.heap.size, 1, none⟩ = some (.int .i64 h) := Blk.get k0 rfl
    have k0_f1 : c3.frozen? ⟨c1.heap.size, 1, none⟩ = false := Blk.frozen k0 1
    have k0_z : c1.heap.size < c3.heap.size := Blk.lt k0
    go_wp2_with fail
    go_call (specIntervalValid_any _ _ _) as e c4 ⟨rfl, hb⟩
    replace k0 : Blk c4 (c1.heap.size) 25 #[.int .i64 s, .int .i64 h] := Blk.pure (by repeat' (first | (with_reducible assumption) | (with_reducible exact Blk.new _ _ _) | (with_reducible exact Blk.new' (by simp)) | (with_reducible refine Blk.alloc ?_ _) | (with_reducible refine Blk.drew ?_) | (with_reducible refine Blk.drewN ?_ _) | (with_reducible refine Blk.ne ?_ ?_ _) | omega | (simp; omega))) hb
    replace hB := below_pure (w := w) (by go_grown) hb
    clear hb; replace hsz := hB.size
    clear k0_c0 k0_f0 k0_c1 k0_f1 k0_z
    have k0_c0 : c4.cell? ⟨c1.heap.size, 0, none⟩ = some (.int .i64 s) := Blk.get k0 rfl
    have k0_f0 : c4.frozen? ⟨c1.heap.size, 0, none⟩ = false := Blk.frozen k0 0
    have k0_c1 : c4.cell? ⟨c1.heap.size, 1, none⟩ = some (.int .i64 h) := Blk.get k0 rfl
    have k0_f1 : c4.frozen? ⟨c1.heap.size, 1, none⟩ = false := Blk.frozen k0 1
    have k0_z : c1.heap.size < c4.heap.size := Blk.lt k0
    go_wp2_with fail
    go_call (alive_any _) as e c5 ⟨rfl, hb⟩
    replace k0 : Blk c5 (c1.heap.size) 25 #[.int .i64 s, .int .i64 h] := Blk.pure (by repeat' (first | (with_reducible assumption) | (with_reducible exact Blk.new _ _ _) | (with_reducible exact Blk.new' (by simp)) | (with_reducible refine Blk.alloc ?_ _) | (with_reducible refine Blk.drew ?_) | (with_reducible refine Blk.drewN ?_ _) | (with_reducible refine Blk.ne ?_ ?_ _) | omega | (simp; omega))) hb
    replace hB := below_pure (w := w) (by go_grown) hb
    clear hb; replace hsz := hB.size
    clear k0_c0 k0_f0 k0_c1 k0_f1 k0_z
    have k0_c0 : c5.cell? ⟨c1.heap.size, 0, none⟩ = some (.int .i64 s) := Blk.get k0 rfl
    have k0_f0 : c5.frozen? ⟨c1.heap.size, 0, none⟩ = false := Blk.frozen k0 0
    have k0_c1 : c5.cell? ⟨c1.heap.size, 1, none⟩ = some (.int .i64 h) := Blk.get k0 rfl
    have k0_f1 : c5.frozen? ⟨c1.heap.size, 1, none⟩ = false := Blk.frozen k0 1
    have k0_z : c1.heap.size < c5.heap.size := Blk.lt k0
    go_wp2
    go_ret
    exact ⟨rfl, by go_grown⟩
  have ev := qualV_t hi
  obtain ⟨q0, q1, q2, q3, q4, q5⟩ := intB_t hi
  have eb := qualV_back hi
  clear h1
  by_cases hz : s = 0
  · subst hz
    go_wp2_with fail
    go_call (intervalQuality_any _ _ _) as e c2 ⟨rfl, hb⟩
    have k0 : Blk c2 (c1.heap.size) 25 #[.int .i64 0, .int .i64 h] := Blk.pure (by repeat' (first | (with_reducible assumption) | (with_reducible exact Blk.new _ _ _) | (with_reducible exact Blk.new' (by simp)) | (with_reducible refine Blk.alloc ?_ _) | (with_reducible refine Blk.drew ?_) | (with_reducible refine Blk.drewN ?_ _) | (with_reducible refine Blk.ne ?_ ?_ _) | omega | (simp; omega))) hb
    replace hB := below_pure (w := w) (by go_grown) hb
    clear hb; replace hsz := hB.size
    have k0_c0 : c2.cell? ⟨c1.heap.size, 0, none⟩ = some (.int .i64 0) := Blk.get k0 rfl
    have k0_f0 : c2.frozen? ⟨c1.heap.size, 0, none⟩ = false := Blk.frozen k0 0
    have k0_c1 : c2.cell? ⟨c1.heap.size, 1, none⟩ = some (.int .i64 h) := Blk.get k0 rfl
    have k0_f1 : c2.frozen? ⟨c1.heap.size, 1, none⟩ = false := Blk.frozen k0 1
    have k0_z : c1.heap.size < c2.heap.size := Blk.lt k0
    go_wp2_with fail
    go_call (specIntervalQuality_any _ _ _) as e c3 ⟨rfl, hb⟩
    replace k0 : Blk c3 (c1.heap.size) 25 #[.int .i64 0, .int .i64 h] := Blk.pure (by repeat' (first | (with_reducible assumption) | (with_reducible exact Blk.new _ _ _) | (with_reducible exact Blk.new' (by simp)) | (with_reducible refine Blk.alloc ?_ _) | (with_reducible refine Blk.drew ?_) | (with_reducible refine Blk.drewN ?_ _) | (with_reducible refine Blk.ne ?_ ?_ _) | omega | (simp; omega))) hb
    replace hB := below_pure (w := w) (by go_grown) hb
    clear hb; replace hsz := hB.size
    clear k0_c0 k0_f0 k0_c1 k0_f1 k0_z
    have k0_c0 : c3.cell? ⟨c1.heap.size, 0, none⟩ = some (.int .i64 0) := Blk.get k0 rfl
    have k0_f0 : c3.frozen? ⟨c1.heap.size, 0, none⟩ = false := Blk.frozen k0 0
    have k0_c1 : c3.cell? ⟨c1.heap.size, 1, none⟩ = some (.int .i64 h) := Blk.get k0 rfl
    have k0_f1 : c3.frozen? ⟨c1.heap.size, 1, none⟩ = false := Blk.frozen k0 1
    have k0_z : c1.heap.size < c3.heap.size := Blk.lt k0
    go_wp2_with fail
    go_call (specIntervalValid_any _ _ _) as e c4 ⟨rfl, hb⟩
    replace k0 : Blk c4 (c1.heap.size) 25 #[.int .i64 0, .int .i64 h] := Blk.pure (by repeat' (first | (with_reducible assumption) | (with_reducible exact Blk.new _ _ _) | (with_reducible exact Blk.new' (by simp)) | (with_reducible refine Blk.alloc ?_ _) | (with_reducible refine Blk.drew ?_) | (with_reducible refine Blk.drewN ?_ _) | (with_reducible refine Blk.ne ?_ ?_ _) | omega | (simp; omega))) hb
    replace hB := below_pure (w := w) (by go_grown) hb
    clear hb; replace hsz := hB.size
    clear k0_c0 k0_f0 k0_c1 k0_f1 k0_z
    have k0_c0 : c4.cell? ⟨c1.heap.size, 0, none⟩ = some (.int .i64 0) := Blk.get k0 rfl
    have k0_f0 : c4.frozen? ⟨c1.heap.size, 0, none⟩ = false := Blk.frozen k0 0
    have k0_c1 : c4.cell? ⟨c1.heap.size, 1, none⟩ = some (.int .i64 h) := Blk.get k0 rfl
    have k0_f1 : c4.frozen? ⟨c1.heap.size, 1, none⟩ = false := Blk.frozen k0 1
    have k0_z : c1.heap.size < c4.heap.size := Blk.lt k0
    go_wp2
    go_ret
    exact ⟨rfl, by go_grown⟩
  have hz' : (s == 0) = false := by simpa using hz
  by_cases hm : 1 ≤ s ∧ s ≤ 14
  · obtain ⟨m0, m1⟩ := hm
    have eu := qualV_7 hi m0 m1
    go_wp2_with fail
    go_call (intervalQuality_any _ _ _) as e c2 ⟨rfl, hb⟩
    have k0 : Blk c2 (c1.heap.size) 25 #[.int .i64 s, .int .i64 h] := Blk.pure (by repeat' (first | (with_reducible assumption) | (with_reducible exact Blk.new _ _ _) | (with_reducible exact Blk.new' (by simp)) | (with_reducible refine Blk.alloc ?_ _) | (with_reducible refine Blk.drew ?_) | (with_reducible refine Blk.drewN ?_ _) | (with_reducible refine Blk.ne ?_ ?_ _) | omega | (simp; omega))) hb
    replace hB := below_pure (w := w) (by go_grown) hb
    clear hb; replace hsz := hB.size
    have k0_c0 : c2.cell? ⟨c1.heap.size, 0, none⟩ = some (.int .i64 s) := Blk.get k0 rfl
    have k0_f0 : c2.frozen? ⟨c1.heap.size, 0, none⟩ = false := Blk.frozen k0 0
    have k0_c1 : c2.cell? ⟨c1.heap.size, 1, none⟩ = some (.int .i64 h) := Blk.get k0 rfl
    have k0_f1 : c2.frozen? ⟨c1.heap.size, 1, none⟩ = false := Blk.frozen k0 1
    have k0_z : c1.heap.size < c2.heap.size := Blk.lt k0
    go_wp2_with fail
    go_call (specIntervalQuality_any _ _ _) as e c3 ⟨rfl, hb⟩
    replace k0 : Blk c3 (c1.heap.size) 25 #[.int .i64 s, .int .i64 h] := Blk.pure (by repeat' (first | (with_reducible assumption) | (with_reducible exact Blk.new _ _ _) | (with_reducible exact Blk.new' (by simp)) | (with_reducible refine Blk.alloc ?_ _) | (with_reducible refine Blk.drew ?_) | (with_reducible refine Blk.drewN ?_ _) | (with_reducible refine Blk.ne ?_ ?_ _) | omega | (simp; omega))) hb
    replace hB := below_pure (w := w) (by go_grown) hb
    clear hb; replace hsz := hB.size
    clear k0_c0 k0_f0 k0_c1 k0_f1 k0_z
    have k0_c0 : c3.cell? ⟨c1.heap.size, 0, none⟩ = some (.int .i64 s) := Blk.get k0 rfl
    have k0_f0 : c3.frozen? ⟨c1.heap.size, 0, none⟩ = false := Blk.frozen k0 0
    have k0_c1 : c3.cell? ⟨c1.heap.size, 1, none⟩ = some (.int .i64 h) := Blk.get k0 rfl
    have k0_f1 : c3.frozen? ⟨c1.heap.size, 1, none⟩ = false := Blk.frozen k0 1
    have k0_z : c1.heap.size < c3.heap.size := Blk.lt k0
    go_wp2_with fail
    go_call (specIntervalValid_any _ _ _) as e c4 ⟨rfl, hb⟩
    replace k0 : Blk c4 (c1.heap.size) 25 #[.int .i64 s, .int .i64 h] := Blk.pure (by repeat' (first | (with_reducible assumption) | (with_reducible exact Blk.new _ _ _) | (with_reducible exact Blk.new' (by simp)) | (with_reducible refine Blk.alloc ?_ _) | (with_reducible refine Blk.drew ?_) | (with_reducible refine Blk.drewN ?_ _) | (with_reducible refine Blk.ne ?_ ?_ _) | omega | (simp; omega))) hb
    replace hB := below_pure (w := w) (by go_grown) hb
    clear hb; replace hsz := hB.size
    clear k0_c0 k0_f0 k0_c1 k0_f1 k0_z
    have k0_c0 : c4.cell? ⟨c1.heap.size, 0, none⟩ = some (.int .i64 s) := Blk.get k0 rfl
    have k0_f0 : c4.frozen? ⟨c1.heap.size, 0, none⟩ = false := Blk.frozen k0 0
    have k0_c1 : c4.cell? ⟨c1.heap.size, 1, none⟩ = some (.int .i64 h) := Blk.get k0 rfl
    have k0_f1 : c4.frozen? ⟨c1.heap.size, 1, none⟩ = false := Blk.frozen k0 1
    have k0_z : c1.heap.size < c4.heap.size := Blk.lt k0
    go_wp2_with fail
    go_call (intervalQuality_any _ _ _) as e c5 ⟨rfl, hb⟩
    replace k0 : Blk c5 (c1.heap.size) 25 #[.int .i64 s, .int .i64 h] := Blk.pure (by repeat' (first | (with_reducible assumption) | (with_reducible exact Blk.new _ _ _) | (with_reducible exact Blk.new' (by simp)) | (with_reducible refine Blk.alloc ?_ _) | (with_reducible refine Blk.drew ?_) | (with_reducible refine Blk.drewN ?_ _) | (with_reducible refine Blk.ne ?_ ?_ _) | omega | (simp; omega))) hb
    have k1 : Blk c5 (c4.heap.size) 25 #[.int .i64 (s + 7), .int .i64 (h + 12)] := Blk.pure (by repeat' (first | (with_reducible assumption) | (with_reducible exact Blk.new _ _ _) | (with_reducible exact Blk.new' (by simp)) | (with_reducible refine Blk.alloc ?_ _) | (with_reducible refine Blk.drew ?_) | (with_reducible refine Blk.drewN ?_ _) | (with_reducible refine Blk.ne ?_ ?_ _) | omega | (simp; omega))) hb
    replace hB := below_pure (w := w) (by go_grown) hb
    clear hb; replace hsz := hB.size
    clear k0_c0 k0_f0 k0_c1 k0_f1 k0_z
    have k0_c0 : c5.cell? ⟨c1.heap.size, 0, none⟩ = some (.int .i64 s) := Blk.get k0 rfl
    have k0_f0 : c5.frozen? ⟨c1.heap.size, 0, none⟩ = false := Blk.frozen k0 0
    have k0_c1 : c5.cell? ⟨c1.heap.size, 1, none⟩ = some (.int .i64 h) := Blk.get k0 rfl
    have k0_f1 : c5.frozen? ⟨c1.heap.size, 1, none⟩ = false := Blk.frozen k0 1
    have k0_z : c1.heap.size < c5.heap.size := Blk.lt k0
    have k1_c0 : c5.cell? ⟨c4.heap.size, 0, none⟩ = some (.int .i64 (s + 7)) := Blk.get k1 rfl
    have k1_f0 : c5.frozen? ⟨c4.heap.size, 0, none⟩ = false := Blk.frozen k1 0
    have k1_c1 : c5.cell? ⟨c4.heap.size, 1, none⟩ = some (.int .i64 (h + 12)) := Blk.get k1 rfl
    have k1_f1 : c5.frozen? ⟨c4.heap.size, 1, none⟩ = false := Blk.frozen k1 1
    have k1_z : c4.heap.size < c5.heap.size := Blk.lt k1
    go_wp2_with fail
    go_call (intervalBack_any _ _ _) as e c6 ⟨rfl, hb⟩
    replace k0 : Blk c6 (c1.heap.size) 25 #[.int .i64 s, .int .i64 h] := Blk.pure (by repeat' (first | (with_reducible assumption) | (with_reducible exact Blk.new _ _ _) | (with_reducible exact Blk.new' (by simp)) | (with_reducible refine Blk.alloc ?_ _) | (with_reducible refine Blk.drew ?_) | (with_reducible refine Blk.drewN ?_ _) | (with_reducible refine Blk.ne ?_ ?_ _) | omega | (simp; omega))) hb
    replace k1 : Blk c6 (c4.heap.size) 25 #[.int .i64 (s + 7), .int .i64 (h + 12)] := Blk.pure (by repeat' (first | (with_reducible assumption) | (with_reducible exact Blk.new _ _ _) | (with_reducible exact Blk.new' (by simp)) | (with_reducible refine Blk.alloc ?_ _) | (with_reducible refine Blk.drew ?_) | (with_reducible refine Blk.drewN ?_ _) | (with_reducible refine Blk.ne ?_ ?_ _) | omega | (simp; omega))) hb
    replace hB := below_pure (w := w) (by go_grown) hb
    clear hb; replace hsz := hB.size
    clear k0_c0 k0_f0 k0_c1 k0_f1 k0_z k1_c0 k1_f0 k1_c1 k1_f1 k1_z
    have k0_c0 : c6.cell? ⟨c1.heap.size, 0, none⟩ = some (.int .i64 s) := Blk.get k0 rfl
    have k0_f0 : c6.frozen? ⟨c1.heap.size, 0, none⟩ = false := Blk.frozen k0 0
    have k0_c1 : c6.cell? ⟨c1.heap.size, 1, none⟩ = some (.int .i64 h) := Blk.get k0 rfl
    have k0_f1 : c6.frozen? ⟨c1.heap.size, 1, none⟩ = false := Blk.frozen k0 1
    have k0_z : c1.heap.size < c6.heap.size := Blk.lt k0
    have k1_c0 : c6.cell? ⟨c4.heap.size, 0, none⟩ = some (.int .i64 (s + 7)) := Blk.get k1 rfl
    have k1_f0 : c6.frozen? ⟨c4.heap.size, 0, none⟩ = false := Blk.frozen k1 0
    have k1_c1 : c6.cell? ⟨c4.heap.size, 1, none⟩ = some (.int .i64 (h + 12)) := Blk.get k1 rfl
    have k1_f1 : c6.frozen? ⟨c4.heap.size, 1, none⟩ = false := Blk.frozen k1 1
    have k1_z : c4.heap.size < c6.heap.size := Blk.lt k1
    go_wp2_with fail
    go_call (intervalQuality_any _ _ _) as e c7 ⟨rfl, hb⟩
    replace k0 : Blk c7 (c1.heap.size) 25 #[.int .i64 s, .int .i64 h] := Blk.pure (by repeat' (first | (with_reducible assumption) | (with_reducible exact Blk.new _ _ _) | (with_reducible exact Blk.new' (by simp)) | (with_reducible refine Blk.alloc ?_ _) | (with_reducible refine Blk.drew ?_) | (with_reducible refine Blk.drewN ?_ _) | (with_reducible refine Blk.ne ?_ ?_ _) | omega | (simp; omega))) hb
    replace k1 : Blk c7 (c4.heap.size) 25 #[.int .i64 (s + 7), .int .i64 (h + 12)] := Blk.pure (by repeat' (first | (with_reducible assumption) | (with_reducible exact Blk.new _ _ _) | (with_reducible exact Blk.new' (by simp)) | (with_reducible refine Blk.alloc ?_ _) | (with_reducible refine Blk.drew ?_) | (with_reducible refine Blk.drewN ?_ _) | (with_reducible refine Blk.ne ?_ ?_ _) | omega | (simp; omega))) hb
    replace hB := below_pure (w := w) (by go_grown) hb
    clear hb; replace hsz := hB.size
    clear k0_c0 k0_f0 k0_c1 k0_f1 k0_z k1_c0 k1_f0 k1_c1 k1_f1 k1_z
    have k0_c0 : c7.cell? ⟨c1.heap.size, 0, none⟩ = some (.int .i64 s) := Blk.get k0 rfl
    have k0_f0 : c7.frozen? ⟨c1.heap.size, 0, none⟩ = false := Blk.frozen k0 0
    have k0_c1 : c7.cell? ⟨c1.heap.size, 1, none⟩ = some (.int .i64 h) := Blk.get k0 rfl
    have k0_f1 : c7.frozen? ⟨c1.heap.size, 1, none⟩ = false := Blk.frozen k0 1
    have k0_z : c1.heap.size < c7.heap.size := Blk.lt k0
    have k1_c0 : c7.cell? ⟨c4.heap.size, 0, none⟩ = some (.int .i64 (s + 7)) := Blk.get k1 rfl
    have k1_f0 : c7.frozen? ⟨c4.heap.size, 0, none⟩ = false := Blk.frozen k1 0
    have k1_c1 : c7.cell? ⟨c4.heap.size, 1, none⟩ = some (.int .i64 (h + 12)) := Blk.get k1 rfl
    have k1_f1 : c7.frozen? ⟨c4.heap.size, 1, none⟩ = false := Blk.frozen k1 1
    have k1_z : c4.heap.size < c7.heap.size := Blk.lt k1
    go_wp2
    go_ret
    exact ⟨rfl, by go_grown⟩
  rcases (show s < 1 ∨ 14 < s by omega) with hm | hm
  all_goals
    go_wp2_with fail
    go_call (intervalQuality_any _ _ _) as e c2 ⟨rfl, hb⟩
    have k0 : Blk c2 (c1.heap.size) 25 #[.int .i64 s, .int .i64 h] := Blk.pure (by repeat' (first | (with_reducible assumption) | (with_reducible exact Blk.new _ _ _) | (with_reducible exact Blk.new' (by simp)) | (with_reducible refine Blk.alloc ?_ _) | (with_reducible refine Blk.drew ?_) | (with_reducible refine Blk.drewN ?_ _) | (with_reducible refine Blk.ne ?_ ?_ _) | omega | (simp; omega))) hb
    replace hB := below_pure (w := w) (by go_grown) hb
    clear hb; replace hsz := hB.size
    have k0_c0 : c2.cell? ⟨c1.heap.size, 0, none⟩ = some (.int .i64 s) := Blk.get k0 rfl
    have k0_f0 : c2.frozen? ⟨c1.heap.size, 0, none⟩ = false := Blk.frozen k0 0
    have k0_c1 : c2.cell? ⟨c1.heap.size, 1, none⟩ = some (.int .i64 h) := Blk.get k0 rfl
    have k0_f1 : c2.frozen? ⟨c1.heap.size, 1, none⟩ = false := Blk.frozen k0 1
    have k0_z : c1.heap.size < c2.heap.size := Blk.lt k0
    go_wp2_with fail
    go_call (specIntervalQuality_any _ _ _) as e c3 ⟨rfl, hb⟩
    replace k0 : Blk c3 (c1.heap.size) 25 #[.int .i64 s, .int .i64 h] := Blk.pure (by repeat' (first | (with_reducible assumption) | (with_reducible exact Blk.new _ _ _) | (with_reducible exact Blk.new' (by simp)) | (with_reducible refine Blk.alloc ?_ _) | (with_reducible refine Blk.drew ?_) | (with_reducible refine Blk.drewN ?_ _) | (with_reducible refine Blk.ne ?_ ?_ _) | omega | (simp; omega))) hb
    replace hB := below_pure (w := w) (by go_grown) hb
    clear hb; replace hsz := hB.size
    clear k0_c0 k0_f0 k0_c1 k0_f1 k0_z
    have k0_c0 : c3.cell? ⟨c1.heap.size, 0, none⟩ = some (.int .i64 s) := Blk.get k0 rfl
    have k0_f0 : c3.frozen? ⟨c1.heap.size, 0, none⟩ = false := Blk.frozen k0 0
    have k0_c1 : c3.cell? ⟨c1.heap.size, 1, none⟩ = some (.int .i64 h) := Blk.get k0 rfl
    have k0_f1 : c3.frozen? ⟨c1.heap.size, 1, none⟩ = false := Blk.frozen k0 1
    have k0_z : c1.heap.size < c3.heap.size := Blk.lt k0
    go_wp2_with fail
    go_call (specIntervalValid_any _ _ _) as e c4 ⟨rfl, hb⟩
    replace k0 : Blk c4 (c1.heap.size) 25 #[.int .i64 s, .int .i64 h] := Blk.pure (by repeat' (first | (with_reducible assumption) | (with_reducible exact Blk.new _ _ _) | (with_reducible exact Blk.new' (by simp)) | (with_reducible refine Blk.alloc ?_ _) | (with_reducible refine Blk.drew ?_) | (with_reducible refine Blk.drewN ?_ _) | (with_reducible refine Blk.ne ?_ ?_ _) | omega | (simp; omega))) hb
    replace hB := below_pure (w := w) (by go_grown) hb
    clear hb; replace hsz := hB.size
    clear k0_c0 k0_f0 k0_c1 k0_f1 k0_z
    have k0_c0 : c4.cell? ⟨c1.heap.size, 0, none⟩ = some (.int .i64 s) := Blk.get k0 rfl
    have k0_f0 : c4.frozen? ⟨c1.heap.size, 0, none⟩ = false := Blk.frozen k0 0
    have k0_c1 : c4.cell? ⟨c1.heap.size, 1, none⟩ = some (.int .i64 h) := Blk.get k0 rfl
    have k0_f1 : c4.frozen? ⟨c1.heap.size, 1, none⟩ = false := Blk.frozen k0 1
    have k0_z : c1.heap.size < c4.heap.size := Blk.lt k0
    go_wp2_with fail
    go_call (intervalBack_any _ _ _) as e c5 ⟨rfl, hb⟩
    replace k0 : Blk c5 (c1.heap.size) 25 #[.int .i64 s, .int .i64 h] := Blk.pure (by repeat' (first | (with_reducible assumption) | (with_reducible exact Blk.new _ _ _) | (with_reducible exact Blk.new' (by simp)) | (with_reducible refine Blk.alloc ?_ _) | (with_reducible refine Blk.drew ?_) | (with_reducible refine Blk.drewN ?_ _) | (with_reducible refine Blk.ne ?_ ?_ _) | omega | (simp; omega))) hb
    have k1 : Blk c5 (c4.heap.size) 25 #[.int .i64 (s + 7), .int .i64 (h + 12)] := Blk.pure (by repeat' (first | (with_reducible assumption) | (with_reducible exact Blk.new _ _ _) | (with_reducible exact Blk.new' (by simp)) | (with_reducible refine Blk.alloc ?_ _) | (with_reducible refine Blk.drew ?_) | (with_reducible refine Blk.drewN ?_ _) | (with_reducible refine Blk.ne ?_ ?_ _) | omega | (simp; omega))) hb
    replace hB := below_pure (w := w) (by go_grown) hb
    clear hb; replace hsz := hB.size
    clear k0_c0 k0_f0 k0_c1 k0_f1 k0_z
    have k0_c0 : c5.cell? ⟨c1.heap.size, 0, none⟩ = some (.int .i64 s) := Blk.get k0 rfl
    have k0_f0 : c5.frozen? ⟨c1.heap.size, 0, none⟩ = false := Blk.frozen k0 0
    have k0_c1 : c5.cell? ⟨c1.heap.size, 1, none⟩ = some (.int .i64 h) := Blk.get k0 rfl
    have k0_f1 : c5.frozen? ⟨c1.heap.size, 1, none⟩ = false := Blk.frozen k0 1
    have k0_z : c1.heap.size < c5.heap.size := Blk.lt k0
    have k1_c0 : c5.cell? ⟨c4.heap.size, 0, none⟩ = some (.int .i64 (s + 7)) := Blk.get k1 rfl
    have k1_f0 : c5.frozen? ⟨c4.heap.size, 0, none⟩ = false := Blk.frozen k1 0
    have k1_c1 : c5.cell? ⟨c4.heap.size, 1, none⟩ = some (.int .i64 (h + 12)) := Blk.get k1 rfl
    have k1_f1 : c5.frozen? ⟨c4.heap.size, 1, none⟩ = false := Blk.frozen k1 1
    have k1_z : c4.heap.size < c5.heap.size := Blk.lt k1
    go_wp2_with fail
    go_call (intervalQuality_any _ _ _) as e c6 ⟨rfl, hb⟩
    replace k0 : Blk c6 (c1.heap.size) 25 #[.int .i64 s, .int .i64 h] := Blk.pure (by repeat' (first | (with_reducible assumption) | (with_reducible exact Blk.new _ _ _) | (with_reducible exact Blk.new' (by simp)) | (with_reducible refine Blk.alloc ?_ _) | (with_reducible refine Blk.drew ?_) | (with_reducible refine Blk.drewN ?_ _) | (with_reducible refine Blk.ne ?_ ?_ _) | omega | (simp; omega))) hb
    replace k1 : Blk c6 (c4.heap.size) 25 #[.int .i64 (s + 7), .int .i64 (h + 12)] := Blk.pure (by repeat' (first | (with_reducible assumption) | (with_reducible exact Blk.new _ _ _) | (with_reducible exact Blk.new' (by simp)) | (with_reducible refine Blk.alloc ?_ _) | (with_reducible refine Blk.drew ?_) | (with_reducible refine Blk.drewN ?_ _) | (with_reducible refine Blk.ne ?_ ?_ _) | omega | (simp; omega))) hb
    replace hB := below_pure (w := w) (by go_grown) hb
    clear hb; replace hsz := hB.size
    clear k0_c0 k0_f0 k0_c1 k0_f1 k0_z k1_c0 k1_f0 k1_c1 k1_f1 k1_z
    have k0_c0 : c6.cell? ⟨c1.heap.size, 0, none⟩ = some (.int .i64 s) := Blk.get k0 rfl
    have k0_f0 : c6.frozen? ⟨c1.heap.size, 0, none⟩ = false := Blk.frozen k0 0
    have k0_c1 : c6.cell? ⟨c1.heap.size, 1, none⟩ = some (.int .i64 h) := Blk.get k0 rfl
    have k0_f1 : c6.frozen? ⟨c1.heap.size, 1, none⟩ = false := Blk.frozen k0 1
    have k0_z : c1.heap.size < c6.heap.size := Blk.lt k0
    have k1_c0 : c6.cell? ⟨c4.heap.size, 0, none⟩ = some (.int .i64 (s + 7)) := Blk.get k1 rfl
    have k1_f0 : c6.frozen? ⟨c4.heap.size, 0, none⟩ = false := Blk.frozen k1 0
    have k1_c1 : c6.cell? ⟨c4.heap.size, 1, none⟩ = some (.int .i64 (h + 12)) := Blk.get k1 rfl
    have k1_f1 : c6.frozen? ⟨c4.heap.size, 1, none⟩ = false := Blk.frozen k1 1
    have k1_z : c4.heap.size < c6.heap.size := Blk.lt k1
    go_wp2
    go_ret
    exact ⟨rfl, by go_grown⟩
end Go.Proofs.Ytelmcidbengcdaa

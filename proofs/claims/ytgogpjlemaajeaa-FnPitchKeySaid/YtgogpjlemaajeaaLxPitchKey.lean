/- The walk of the law FnPitchKey: it returns true, and nothing that was there turns. No condition. -/
import Derived.Test.YtgogpjlemaajeaaDq
import Derived.Test.YtgogpjlemaajeaaAl
namespace Go.Proofs.Ytgogpjlemaajeaa
open Go.RowKit

set_option maxHeartbeats 2000000 in
set_option maxRecDepth 100000 in
theorem fnPitchKey_walk (a : Option Addr) (len cap : Nat) (w : World) (hC : Code' w a len cap) :
    Calls Try.prog 12 #[.slice a len cap] w (Gives (.bool true) w) := by
  by_cases hlen : 1048576 < len
  · have hcap : len ≤ 9223372036854775807 := by have h1 := hC.2.1; have h2 := hC.2.2; unfold maxLen at h2; omega
    go_enter Try.func12, Try.ntmps12
    go_wp2
    go_ret
    exact ⟨rfl, by go_grown⟩
  have hlen' : len ≤ 1048576 := by omega
  have HC := Lib.hid hC
  clear hC
  go_enter Try.func12, Try.ntmps12
  go_wp2_with fail
  refine (drawPitchKey_any _ _ _ _ HC.out hlen').mono ?_
  rintro e c1 ⟨s, x, o, rfl, ⟨bs0, bs1, bx0, bx1, bo0, bo1⟩, hb⟩
  have hB : Below w.heap.size w c1 := by have h := below_pure (w := w) (by go_grown) hb; exact h
  have hsz := hB.size
  clear hb HC
  cases hv : pitchB s x o
  · have ev := keyV_f hv
    go_wp2_with fail
    go_call (pitchKey_any _ _ _ _) as e c2 ⟨rfl, hb⟩
    have k0 : Blk c2 (c1.heap.size) 25 #[.int .i64 s, .int .i64 x, .int .i64 o] := Blk.pure (by repeat' (first | (with_reducible assumption) | (with_reducible exact Blk.new _ _ _) | (with_reducible exact Blk.new' (by simp)) | (with_reducible refine Blk.alloc ?_ _) | (with_reducible refine Blk.drew ?_) | (with_reducible refine Blk.drewN ?_ _) | (with_reducible refine Blk.ne ?_ ?_ _) | omega | (simp; omega))) hb
    replace hB := below_pure (w := w) (by go_grown) hb
    clear hb; replace hsz := hB.size
    have k0_c0 : c2.cell? ⟨c1.heap.size, 0, none⟩ = some (.int .i64 s) := Blk.get k0 rfl
    have k0_f0 : c2.frozen? ⟨c1.heap.size, 0, none⟩ = false := Blk.frozen k0 0
    have k0_c1 : c2.cell? ⟨c1.heap.size, 1, none⟩ = some (.int .i64 x) := Blk.get k0 rfl
    have k0_f1 : c2.frozen? ⟨c1.heap.size, 1, none⟩ = false := Blk.frozen k0 1
    have k0_c2 : c2.cell? ⟨c1.heap.size, 2, none⟩ = some (.int .i64 o) := Blk.get k0 rfl
    have k0_f2 : c2.frozen? ⟨c1.heap.size, 2, none⟩ = false := Blk.frozen k0 2
    have k0_z : c1.heap.size < c2.heap.size := Blk.lt k0
    go_wp2_with fail
    go_call (specPitchKey_any _ _ _ _) as e c3 ⟨rfl, hb⟩
    replace k0 : Blk c3 (c1.heap.size) 25 #[.int .i64 s, .int .i64 x, .int .i64 o] := Blk.pure (by repeat' (first | (with_reducible assumption) | (with_reducible exact Blk.new _ _ _) | (with_reducible exact Blk.new' (by simp)) | (with_reducible refine Blk.alloc ?_ _) | (with_reducible refine Blk.drew ?_) | (with_reducible refine Blk.drewN ?_ _) | (with_reducible refine Blk.ne ?_ ?_ _) | omega | (simp; omega))) hb
    replace hB := below_pure (w := w) (by go_grown) hb
    clear hb; replace hsz := hB.size
    clear k0_c0 k0_f0 k0_c1 k0_f1 k0_c2 k0_f2 k0_z
    have k0_c0 : c3.cell? ⟨c1.heap.size, 0, none⟩ = some (.int .i64 s) := Blk.get k0 rfl
    have k0_f0 : c3.frozen? ⟨c1.heap.size, 0, none⟩ = false := Blk.frozen k0 0
    have k0_c1 : c3.cell? ⟨c1.heap.size, 1, none⟩ = some (.int .i64 x) := Blk.get k0 rfl
    have k0_f1 : c3.frozen? ⟨c1.heap.size, 1, none⟩ = false := Blk.frozen k0 1
    have k0_c2 : c3.cell? ⟨c1.heap.size, 2, none⟩ = some (.int .i64 o) := Blk.get k0 rfl
    have k0_f2 : c3.frozen? ⟨c1.heap.size, 2, none⟩ = false := Blk.frozen k0 2
    have k0_z : c1.heap.size < c3.heap.size := Blk.lt k0
    go_wp2_with fail
    go_call (specPitchValid_any _ _ _ _) as e c4 ⟨rfl, hb⟩
    replace k0 : Blk c4 (c1.heap.size) 25 #[.int .i64 s, .int .i64 x, .int .i64 o] := Blk.pure (by repeat' (first | (with_reducible assumption) | (with_reducible exact Blk.new _ _ _) | (with_reducible exact Blk.new' (by simp)) | (with_reducible refine Blk.alloc ?_ _) | (with_reducible refine Blk.drew ?_) | (with_reducible refine Blk.drewN ?_ _) | (with_reducible refine Blk.ne ?_ ?_ _) | omega | (simp; omega))) hb
    replace hB := below_pure (w := w) (by go_grown) hb
    clear hb; replace hsz := hB.size
    clear k0_c0 k0_f0 k0_c1 k0_f1 k0_c2 k0_f2 k0_z
    have k0_c0 : c4.cell? ⟨c1.heap.size, 0, none⟩ = some (.int .i64 s) := Blk.get k0 rfl
    have k0_f0 : c4.frozen? ⟨c1.heap.size, 0, none⟩ = false := Blk.frozen k0 0
    have k0_c1 : c4.cell? ⟨c1.heap.size, 1, none⟩ = some (.int .i64 x) := Blk.get k0 rfl
    have k0_f1 : c4.frozen? ⟨c1.heap.size, 1, none⟩ = false := Blk.frozen k0 1
    have k0_c2 : c4.cell? ⟨c1.heap.size, 2, none⟩ = some (.int .i64 o) := Blk.get k0 rfl
    have k0_f2 : c4.frozen? ⟨c1.heap.size, 2, none⟩ = false := Blk.frozen k0 2
    have k0_z : c1.heap.size < c4.heap.size := Blk.lt k0
    go_wp2_with fail
    go_call (alive_any _) as e c5 ⟨rfl, hb⟩
    replace k0 : Blk c5 (c1.heap.size) 25 #[.int .i64 s, .int .i64 x, .int .i64 o] := Blk.pure (by repeat' (first | (with_reducible assumption) | (with_reducible exact Blk.new _ _ _) | (with_reducible exact Blk.new' (by simp)) | (with_reducible refine Blk.alloc ?_ _) | (with_reducible refine Blk.drew ?_) | (with_reducible refine Blk.drewN ?_ _) | (with_reducible refine Blk.ne ?_ ?_ _) | omega | (simp; omega))) hb
    replace hB := below_pure (w := w) (by go_grown) hb
    clear hb; replace hsz := hB.size
    clear k0_c0 k0_f0 k0_c1 k0_f1 k0_c2 k0_f2 k0_z
    have k0_c0 : c5.cell? ⟨c1.heap.size, 0, none⟩ = some (.int .i64 s) := Blk.get k0 rfl
    have k0_f0 : c5.frozen? ⟨c1.heap.size, 0, none⟩ = false := Blk.frozen k0 0
    have k0_c1 : c5.cell? ⟨c1.heap.size, 1, none⟩ = some (.int .i64 x) := Blk.get k0 rfl
    have k0_f1 : c5.frozen? ⟨c1.heap.size, 1, none⟩ = false := Blk.frozen k0 1
    have k0_c2 : c5.cell? ⟨c1.heap.size, 2, none⟩ = some (.int .i64 o) := Blk.get k0 rfl
    have k0_f2 : c5.frozen? ⟨c1.heap.size, 2, none⟩ = false := Blk.frozen k0 2
    have k0_z : c1.heap.size < c5.heap.size := Blk.lt k0
    go_wp2
    go_ret
    exact ⟨rfl, by go_grown⟩
  · have ev := keyV_t hv
    have hb := pitchB_t hv
    obtain ⟨q0, q1, q2, q3, q4, q5⟩ := hb
    obtain ⟨m1, m2⟩ := half_bd s
    go_wp2_with fail
    go_call (pitchKey_any _ _ _ _) as e c2 ⟨rfl, hb⟩
    have k0 : Blk c2 (c1.heap.size) 25 #[.int .i64 s, .int .i64 x, .int .i64 o] := Blk.pure (by repeat' (first | (with_reducible assumption) | (with_reducible exact Blk.new _ _ _) | (with_reducible exact Blk.new' (by simp)) | (with_reducible refine Blk.alloc ?_ _) | (with_reducible refine Blk.drew ?_) | (with_reducible refine Blk.drewN ?_ _) | (with_reducible refine Blk.ne ?_ ?_ _) | omega | (simp; omega))) hb
    replace hB := below_pure (w := w) (by go_grown) hb
    clear hb; replace hsz := hB.size
    have k0_c0 : c2.cell? ⟨c1.heap.size, 0, none⟩ = some (.int .i64 s) := Blk.get k0 rfl
    have k0_f0 : c2.frozen? ⟨c1.heap.size, 0, none⟩ = false := Blk.frozen k0 0
    have k0_c1 : c2.cell? ⟨c1.heap.size, 1, none⟩ = some (.int .i64 x) := Blk.get k0 rfl
    have k0_f1 : c2.frozen? ⟨c1.heap.size, 1, none⟩ = false := Blk.frozen k0 1
    have k0_c2 : c2.cell? ⟨c1.heap.size, 2, none⟩ = some (.int .i64 o) := Blk.get k0 rfl
    have k0_f2 : c2.frozen? ⟨c1.heap.size, 2, none⟩ = false := Blk.frozen k0 2
    have k0_z : c1.heap.size < c2.heap.size := Blk.lt k0
    go_wp2_with fail
    go_call (specPitchKey_any _ _ _ _) as e c3 ⟨rfl, hb⟩
    replace k0 : Blk c3 (c1.heap.size) 25 #[.int .i64 s, .int .i64 x, .int .i64 o] := Blk.pure (by repeat' (first | (with_reducible assumption) | (with_reducible exact Blk.new _ _ _) | (with_reducible exact Blk.new' (by simp)) | (with_reducible refine Blk.alloc ?_ _) | (with_reducible refine Blk.drew ?_) | (with_reducible refine Blk.drewN ?_ _) | (with_reducible refine Blk.ne ?_ ?_ _) | omega | (simp; omega))) hb
    replace hB := below_pure (w := w) (by go_grown) hb
    clear hb; replace hsz := hB.size
    clear k0_c0 k0_f0 k0_c1 k0_f1 k0_c2 k0_f2 k0_z
    have k0_c0 : c3.cell? ⟨c1.heap.size, 0, none⟩ = some (.int .i64 s) := Blk.get k0 rfl
    have k0_f0 : c3.frozen? ⟨c1.heap.size, 0, none⟩ = false := Blk.frozen k0 0
    have k0_c1 : c3.cell? ⟨c1.heap.size, 1, none⟩ = some (.int .i64 x) := Blk.get k0 rfl
    have k0_f1 : c3.frozen? ⟨c1.heap.size, 1, none⟩ = false := Blk.frozen k0 1
    have k0_c2 : c3.cell? ⟨c1.heap.size, 2, none⟩ = some (.int .i64 o) := Blk.get k0 rfl
    have k0_f2 : c3.frozen? ⟨c1.heap.size, 2, none⟩ = false := Blk.frozen k0 2
    have k0_z : c1.heap.size < c3.heap.size := Blk.lt k0
    go_wp2_with fail
    go_call (specPitchValid_any _ _ _ _) as e c4 ⟨rfl, hb⟩
    replace k0 : Blk c4 (c1.heap.size) 25 #[.int .i64 s, .int .i64 x, .int .i64 o] := Blk.pure (by repeat' (first | (with_reducible assumption) | (with_reducible exact Blk.new _ _ _) | (with_reducible exact Blk.new' (by simp)) | (with_reducible refine Blk.alloc ?_ _) | (with_reducible refine Blk.drew ?_) | (with_reducible refine Blk.drewN ?_ _) | (with_reducible refine Blk.ne ?_ ?_ _) | omega | (simp; omega))) hb
    replace hB := below_pure (w := w) (by go_grown) hb
    clear hb; replace hsz := hB.size
    clear k0_c0 k0_f0 k0_c1 k0_f1 k0_c2 k0_f2 k0_z
    have k0_c0 : c4.cell? ⟨c1.heap.size, 0, none⟩ = some (.int .i64 s) := Blk.get k0 rfl
    have k0_f0 : c4.frozen? ⟨c1.heap.size, 0, none⟩ = false := Blk.frozen k0 0
    have k0_c1 : c4.cell? ⟨c1.heap.size, 1, none⟩ = some (.int .i64 x) := Blk.get k0 rfl
    have k0_f1 : c4.frozen? ⟨c1.heap.size, 1, none⟩ = false := Blk.frozen k0 1
    have k0_c2 : c4.cell? ⟨c1.heap.size, 2, none⟩ = some (.int .i64 o) := Blk.get k0 rfl
    have k0_f2 : c4.frozen? ⟨c1.heap.size, 2, none⟩ = false := Blk.frozen k0 2
    have k0_z : c1.heap.size < c4.heap.size := Blk.lt k0
    by_cases ho : o = 8
    · have ho' : (o == 8) = true := by simp [ho]
      clear ho
      by_cases hx : x = 2
      · have hx' : (x == 2) = true := by simp [hx]
        clear hx
        go_wp2
        go_ret
        exact ⟨rfl, by go_grown⟩
      · have ev2 : keyV s (x + 1) o = 12 * o + half s + x + 1 := by rw [keyV_t (pitchB_mk (by omega))]; omega
        go_wp2_with fail
        go_call (pitchKey_any _ _ _ _) as e c5 ⟨rfl, hb⟩
        replace k0 : Blk c5 (c1.heap.size) 25 #[.int .i64 s, .int .i64 x, .int .i64 o] := Blk.pure (by repeat' (first | (with_reducible assumption) | (with_reducible exact Blk.new _ _ _) | (with_reducible exact Blk.new' (by simp)) | (with_reducible refine Blk.alloc ?_ _) | (with_reducible refine Blk.drew ?_) | (with_reducible refine Blk.drewN ?_ _) | (with_reducible refine Blk.ne ?_ ?_ _) | omega | (simp; omega))) hb
        have k1 : Blk c5 (c4.heap.size) 25 #[.int .i64 s, .int .i64 x, .int .i64 (o + 1)] := Blk.pure (by repeat' (first | (with_reducible assumption) | (with_reducible exact Blk.new _ _ _) | (with_reducible exact Blk.new' (by simp)) | (with_reducible refine Blk.alloc ?_ _) | (with_reducible refine Blk.drew ?_) | (with_reducible refine Blk.drewN ?_ _) | (with_reducible refine Blk.ne ?_ ?_ _) | omega | (simp; omega))) hb
        have k2 : Blk c5 (c4.heap.size + 1) 25 #[.int .i64 s, .int .i64 (x + 1), .int .i64 o] := Blk.pure (by repeat' (first | (with_reducible assumption) | (with_reducible exact Blk.new _ _ _) | (with_reducible exact Blk.new' (by simp)) | (with_reducible refine Blk.alloc ?_ _) | (with_reducible refine Blk.drew ?_) | (with_reducible refine Blk.drewN ?_ _) | (with_reducible refine Blk.ne ?_ ?_ _) | omega | (simp; omega))) hb
        replace hB := below_pure (w := w) (by go_grown) hb
        clear hb; replace hsz := hB.size
        clear k0_c0 k0_f0 k0_c1 k0_f1 k0_c2 k0_f2 k0_z
        have k0_c0 : c5.cell? ⟨c1.heap.size, 0, none⟩ = some (.int .i64 s) := Blk.get k0 rfl
        have k0_f0 : c5.frozen? ⟨c1.heap.size, 0, none⟩ = false := Blk.frozen k0 0
        have k0_c1 : c5.cell? ⟨c1.heap.size, 1, none⟩ = some (.int .i64 x) := Blk.get k0 rfl
        have k0_f1 : c5.frozen? ⟨c1.heap.size, 1, none⟩ = false := Blk.frozen k0 1
        have k0_c2 : c5.cell? ⟨c1.heap.size, 2, none⟩ = some (.int .i64 o) := Blk.get k0 rfl
        have k0_f2 : c5.frozen? ⟨c1.heap.size, 2, none⟩ = false := Blk.frozen k0 2
        have k0_z : c1.heap.size < c5.heap.size := Blk.lt k0
        have k1_c0 : c5.cell? ⟨c4.heap.size, 0, none⟩ = some (.int .i64 s) := Blk.get k1 rfl
        have k1_f0 : c5.frozen? ⟨c4.heap.size, 0, none⟩ = false := Blk.frozen k1 0
        have k1_c1 : c5.cell? ⟨c4.heap.size, 1, none⟩ = some (.int .i64 x) := Blk.get k1 rfl
        have k1_f1 : c5.frozen? ⟨c4.heap.size, 1, none⟩ = false := Blk.frozen k1 1
        have k1_c2 : c5.cell? ⟨c4.heap.size, 2, none⟩ = some (.int .i64 (o + 1)) := Blk.get k1 rfl
        have k1_f2 : c5.frozen? ⟨c4.heap.size, 2, none⟩ = false := Blk.frozen k1 2
        have k1_z : c4.heap.size < c5.heap.size := Blk.lt k1
        have k2_c0 : c5.cell? ⟨c4.heap.size + 1, 0, none⟩ = some (.int .i64 s) := Blk.get k2 rfl
        have k2_f0 : c5.frozen? ⟨c4.heap.size + 1, 0, none⟩ = false := Blk.frozen k2 0
        have k2_c1 : c5.cell? ⟨c4.heap.size + 1, 1, none⟩ = some (.int .i64 (x + 1)) := Blk.get k2 rfl
        have k2_f1 : c5.frozen? ⟨c4.heap.size + 1, 1, none⟩ = false := Blk.frozen k2 1
        have k2_c2 : c5.cell? ⟨c4.heap.size + 1, 2, none⟩ = some (.int .i64 o) := Blk.get k2 rfl
        have k2_f2 : c5.frozen? ⟨c4.heap.size + 1, 2, none⟩ = false := Blk.frozen k2 2
        have k2_z : c4.heap.size + 1 < c5.heap.size := Blk.lt k2
        go_wp2
        go_ret
        exact ⟨rfl, by go_grown⟩
    · have ev3 : keyV s x (o + 1) = 12 * o + half s + x + 12 := by rw [keyV_t (pitchB_mk (by omega))]; omega
      go_wp2_with fail
      go_call (pitchKey_any _ _ _ _) as e c5 ⟨rfl, hb⟩
      replace k0 : Blk c5 (c1.heap.size) 25 #[.int .i64 s, .int .i64 x, .int .i64 o] := Blk.pure (by repeat' (first | (with_reducible assumption) | (with_reducible exact Blk.new _ _ _) | (with_reducible exact Blk.new' (by simp)) | (with_reducible refine Blk.alloc ?_ _) | (with_reducible refine Blk.drew ?_) | (with_reducible refine Blk.drewN ?_ _) | (with_reducible refine Blk.ne ?_ ?_ _) | omega | (simp; omega))) hb
      have k1 : Blk c5 (c4.heap.size) 25 #[.int .i64 s, .int .i64 x, .int .i64 (o + 1)] := Blk.pure (by repeat' (first | (with_reducible assumption) | (with_reducible exact Blk.new _ _ _) | (with_reducible exact Blk.new' (by simp)) | (with_reducible refine Blk.alloc ?_ _) | (with_reducible refine Blk.drew ?_) | (with_reducible refine Blk.drewN ?_ _) | (with_reducible refine Blk.ne ?_ ?_ _) | omega | (simp; omega))) hb
      have k2 : Blk c5 (c4.heap.size + 1) 25 #[.int .i64 s, .int .i64 (x + 1), .int .i64 o] := Blk.pure (by repeat' (first | (with_reducible assumption) | (with_reducible exact Blk.new _ _ _) | (with_reducible exact Blk.new' (by simp)) | (with_reducible refine Blk.alloc ?_ _) | (with_reducible refine Blk.drew ?_) | (with_reducible refine Blk.drewN ?_ _) | (with_reducible refine Blk.ne ?_ ?_ _) | omega | (simp; omega))) hb
      replace hB := below_pure (w := w) (by go_grown) hb
      clear hb; replace hsz := hB.size
      clear k0_c0 k0_f0 k0_c1 k0_f1 k0_c2 k0_f2 k0_z
      have k0_c0 : c5.cell? ⟨c1.heap.size, 0, none⟩ = some (.int .i64 s) := Blk.get k0 rfl
      have k0_f0 : c5.frozen? ⟨c1.heap.size, 0, none⟩ = false := Blk.frozen k0 0
      have k0_c1 : c5.cell? ⟨c1.heap.size, 1, none⟩ = some (.int .i64 x) := Blk.get k0 rfl
      have k0_f1 : c5.frozen? ⟨c1.heap.size, 1, none⟩ = false := Blk.frozen k0 1
      have k0_c2 : c5.cell? ⟨c1.heap.size, 2, none⟩ = some (.int .i64 o) := Blk.get k0 rfl
      have k0_f2 : c5.frozen? ⟨c1.heap.size, 2, none⟩ = false := Blk.frozen k0 2
      have k0_z : c1.heap.size < c5.heap.size := Blk.lt k0
      have k1_c0 : c5.cell? ⟨c4.heap.size, 0, none⟩ = some (.int .i64 s) := Blk.get k1 rfl
      have k1_f0 : c5.frozen? ⟨c4.heap.size, 0, none⟩ = false := Blk.frozen k1 0
      have k1_c1 : c5.cell? ⟨c4.heap.size, 1, none⟩ = some (.int .i64 x) := Blk.get k1 rfl
      have k1_f1 : c5.frozen? ⟨c4.heap.size, 1, none⟩ = false := Blk.frozen k1 1
      have k1_c2 : c5.cell? ⟨c4.heap.size, 2, none⟩ = some (.int .i64 (o + 1)) := Blk.get k1 rfl
      have k1_f2 : c5.frozen? ⟨c4.heap.size, 2, none⟩ = false := Blk.frozen k1 2
      have k1_z : c4.heap.size < c5.heap.size := Blk.lt k1
      have k2_c0 : c5.cell? ⟨c4.heap.size + 1, 0, none⟩ = some (.int .i64 s) := Blk.get k2 rfl
      have k2_f0 : c5.frozen? ⟨c4.heap.size + 1, 0, none⟩ = false := Blk.frozen k2 0
      have k2_c1 : c5.cell? ⟨c4.heap.size + 1, 1, none⟩ = some (.int .i64 (x + 1)) := Blk.get k2 rfl
      have k2_f1 : c5.frozen? ⟨c4.heap.size + 1, 1, none⟩ = false := Blk.frozen k2 1
      have k2_c2 : c5.cell? ⟨c4.heap.size + 1, 2, none⟩ = some (.int .i64 o) := Blk.get k2 rfl
      have k2_f2 : c5.frozen? ⟨c4.heap.size + 1, 2, none⟩ = false := Blk.frozen k2 2
      have k2_z : c4.heap.size + 1 < c5.heap.size := Blk.lt k2
      by_cases hx : x = 2
      · have hx' : (x == 2) = true := by simp [hx]
        clear hx
        go_wp2
        go_ret
        exact ⟨rfl, by go_grown⟩
      · have ev2 : keyV s (x + 1) o = 12 * o + half s + x + 1 := by rw [keyV_t (pitchB_mk (by omega))]; omega
        go_wp2_with fail
        go_call (pitchKey_any _ _ _ _) as e c6 ⟨rfl, hb⟩
        replace k0 : Blk c6 (c1.heap.size) 25 #[.int .i64 s, .int .i64 x, .int .i64 o] := Blk.pure (by repeat' (first | (with_reducible assumption) | (with_reducible exact Blk.new _ _ _) | (with_reducible exact Blk.new' (by simp)) | (with_reducible refine Blk.alloc ?_ _) | (with_reducible refine Blk.drew ?_) | (with_reducible refine Blk.drewN ?_ _) | (with_reducible refine Blk.ne ?_ ?_ _) | omega | (simp; omega))) hb
        replace k1 : Blk c6 (c4.heap.size) 25 #[.int .i64 s, .int .i64 x, .int .i64 (o + 1)] := Blk.pure (by repeat' (first | (with_reducible assumption) | (with_reducible exact Blk.new _ _ _) | (with_reducible exact Blk.new' (by simp)) | (with_reducible refine Blk.alloc ?_ _) | (with_reducible refine Blk.drew ?_) | (with_reducible refine Blk.drewN ?_ _) | (with_reducible refine Blk.ne ?_ ?_ _) | omega | (simp; omega))) hb
        replace k2 : Blk c6 (c4.heap.size + 1) 25 #[.int .i64 s, .int .i64 (x + 1), .int .i64 o] := Blk.pure (by repeat' (first | (with_reducible assumption) | (with_reducible exact Blk.new _ _ _) | (with_reducible exact Blk.new' (by simp)) | (with_reducible refine Blk.alloc ?_ _) | (with_reducible refine Blk.drew ?_) | (with_reducible refine Blk.drewN ?_ _) | (with_reducible refine Blk.ne ?_ ?_ _) | omega | (simp; omega))) hb
        replace hB := below_pure (w := w) (by go_grown) hb
        clear hb; replace hsz := hB.size
        clear k0_c0 k0_f0 k0_c1 k0_f1 k0_c2 k0_f2 k0_z k1_c0 k1_f0 k1_c1 k1_f1 k1_c2 k1_f2 k1_z k2_c0 k2_f0 k2_c1 k2_f1 k2_c2 k2_f2 k2_z
        have k0_c0 : c6.cell? ⟨c1.heap.size, 0, none⟩ = some (.int .i64 s) := Blk.get k0 rfl
        have k0_f0 : c6.frozen? ⟨c1.heap.size, 0, none⟩ = false := Blk.frozen k0 0
        have k0_c1 : c6.cell? ⟨c1.heap.size, 1, none⟩ = some (.int .i64 x) := Blk.get k0 rfl
        have k0_f1 : c6.frozen? ⟨c1.heap.size, 1, none⟩ = false := Blk.frozen k0 1
        have k0_c2 : c6.cell? ⟨c1.heap.size, 2, none⟩ = some (.int .i64 o) := Blk.get k0 rfl
        have k0_f2 : c6.frozen? ⟨c1.heap.size, 2, none⟩ = false := Blk.frozen k0 2
        have k0_z : c1.heap.size < c6.heap.size := Blk.lt k0
        have k1_c0 : c6.cell? ⟨c4.heap.size, 0, none⟩ = some (.int .i64 s) := Blk.get k1 rfl
        have k1_f0 : c6.frozen? ⟨c4.heap.size, 0, none⟩ = false := Blk.frozen k1 0
        have k1_c1 : c6.cell? ⟨c4.heap.size, 1, none⟩ = some (.int .i64 x) := Blk.get k1 rfl
        have k1_f1 : c6.frozen? ⟨c4.heap.size, 1, none⟩ = false := Blk.frozen k1 1
        have k1_c2 : c6.cell? ⟨c4.heap.size, 2, none⟩ = some (.int .i64 (o + 1)) := Blk.get k1 rfl
        have k1_f2 : c6.frozen? ⟨c4.heap.size, 2, none⟩ = false := Blk.frozen k1 2
        have k1_z : c4.heap.size < c6.heap.size := Blk.lt k1
        have k2_c0 : c6.cell? ⟨c4.heap.size + 1, 0, none⟩ = some (.int .i64 s) := Blk.get k2 rfl
        have k2_f0 : c6.frozen? ⟨c4.heap.size + 1, 0, none⟩ = false := Blk.frozen k2 0
        have k2_c1 : c6.cell? ⟨c4.heap.size + 1, 1, none⟩ = some (.int .i64 (x + 1)) := Blk.get k2 rfl
        have k2_f1 : c6.frozen? ⟨c4.heap.size + 1, 1, none⟩ = false := Blk.frozen k2 1
        have k2_c2 : c6.cell? ⟨c4.heap.size + 1, 2, none⟩ = some (.int .i64 o) := Blk.get k2 rfl
        have k2_f2 : c6.frozen? ⟨c4.heap.size + 1, 2, none⟩ = false := Blk.frozen k2 2
        have k2_z : c4.heap.size + 1 < c6.heap.size := Blk.lt k2
        go_wp2
        go_ret
        exact ⟨rfl, by go_grown⟩
end Go.Proofs.Ytgogpjlemaajeaa

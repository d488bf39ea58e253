/- The walk of the law FnAddInterval: it returns true, and nothing that was there turns. No condition. -/
import Derived.Test.YtelmcidbengcdaaDi
import Derived.Test.YtelmcidbengcdaaAl
import Derived.Test.YtelmcidbengcdaaIm
namespace Go.Proofs.Ytelmcidbengcdaa
open Go.RowKit

set_option maxHeartbeats 8000000 in
set_option maxRecDepth 100000 in
theorem fnAddInterval_walk (a : Option Addr) (len cap : Nat) (w : World) (hC : Code' w a len cap) :
    Calls Try.prog 14 #[.slice a len cap] w (Gives (.bool true) w) := by
  by_cases hlen : 1048576 < len
  · have hcap : len ≤ 9223372036854775807 := by have h1 := hC.2.1; have h2 := hC.2.2; unfold maxLen at h2; omega
    go_enter Try.func14, Try.ntmps14
    go_wp2
    go_ret
    exact ⟨rfl, by go_grown⟩
  have hlen' : len ≤ 1048576 := by omega
  have HC := Lib.hid hC
  clear hC
  go_enter Try.func14, Try.ntmps14
  go_wp2_with fail
  refine (drawAddInterval_any _ _ _ _ HC.out hlen').mono ?_
  rintro e c1 ⟨s, x, o, dx, dy, rfl, hbd, hb⟩
  have hB : Below w.heap.size w c1 := by have h := below_pure (w := w) (by go_grown) hb; exact h
  have hsz := hB.size
  clear hb HC
  cases hf : addB s x o dx dy
  · clear hbd
    go_wp2_with fail
    go_call (addF hf _) as e c2 ⟨rfl, hb⟩
    have k0 : Blk c2 (c1.heap.size) 36 #[.int .i64 s, .int .i64 x, .int .i64 o] := Blk.pure (by repeat' (first | (with_reducible assumption) | (with_reducible exact Blk.new _ _ _) | (with_reducible exact Blk.new' (by simp)) | (with_reducible refine Blk.alloc ?_ _) | (with_reducible refine Blk.drew ?_) | (with_reducible refine Blk.drewN ?_ _) | (with_reducible refine Blk.ne ?_ ?_ _) | omega | (simp; omega))) hb
    have k1 : Blk c2 (c1.heap.size + 1) 25 #[.int .i64 dx, .int .i64 dy] := Blk.pure (by repeat' (first | (with_reducible assumption) | (with_reducible exact Blk.new _ _ _) | (with_reducible exact Blk.new' (by simp)) | (with_reducible refine Blk.alloc ?_ _) | (with_reducible refine Blk.drew ?_) | (with_reducible refine Blk.drewN ?_ _) | (with_reducible refine Blk.ne ?_ ?_ _) | omega | (simp; omega))) hb
    replace hB := below_pure (w := w) (by go_grown) hb
    clear hb; replace hsz := hB.size
    have k0_c0 : c2.cell? ⟨c1.heap.size, 0, none⟩ = some (.int .i64 s) := Blk.get k0 rfl
    have k0_f0 : c2.frozen? ⟨c1.heap.size, 0, none⟩ = false := Blk.frozen k0 0
    have k0_c1 : c2.cell? ⟨c1.heap.size, 1, none⟩ = some (.int .i64 x) := Blk.get k0 rfl
    have k0_f1 : c2.frozen? ⟨c1.heap.size, 1, none⟩ = false := Blk.frozen k0 1
    have k0_c2 : c2.cell? ⟨c1.heap.size, 2, none⟩ = some (.int .i64 o) := Blk.get k0 rfl
    have k0_f2 : c2.frozen? ⟨c1.heap.size, 2, none⟩ = false := Blk.frozen k0 2
    have k0_z : c1.heap.size < c2.heap.size := Blk.lt k0
    have k1_c0 : c2.cell? ⟨c1.heap.size + 1, 0, none⟩ = some (.int .i64 dx) := Blk.get k1 rfl
    have k1_f0 : c2.frozen? ⟨c1.heap.size + 1, 0, none⟩ = false := Blk.frozen k1 0
    have k1_c1 : c2.cell? ⟨c1.heap.size + 1, 1, none⟩ = some (.int .i64 dy) := Blk.get k1 rfl
    have k1_f1 : c2.frozen? ⟨c1.heap.size + 1, 1, none⟩ = false := Blk.frozen k1 1
    have k1_z : c1.heap.size + 1 < c2.heap.size := Blk.lt k1
    go_wp2_with fail
    go_call (specAddF hf _) as e c3 ⟨rfl, hb⟩
    replace k0 : Blk c3 (c1.heap.size) 36 #[.int .i64 s, .int .i64 x, .int .i64 o] := Blk.pure (by repeat' (first | (with_reducible assumption) | (with_reducible exact Blk.new _ _ _) | (with_reducible exact Blk.new' (by simp)) | (with_reducible refine Blk.alloc ?_ _) | (with_reducible refine Blk.drew ?_) | (with_reducible refine Blk.drewN ?_ _) | (with_reducible refine Blk.ne ?_ ?_ _) | omega | (simp; omega))) hb
    replace k1 : Blk c3 (c1.heap.size + 1) 25 #[.int .i64 dx, .int .i64 dy] := Blk.pure (by repeat' (first | (with_reducible assumption) | (with_reducible exact Blk.new _ _ _) | (with_reducible exact Blk.new' (by simp)) | (with_reducible refine Blk.alloc ?_ _) | (with_reducible refine Blk.drew ?_) | (with_reducible refine Blk.drewN ?_ _) | (with_reducible refine Blk.ne ?_ ?_ _) | omega | (simp; omega))) hb
    have k2 : Blk c3 (c2.heap.size) 36 #[.int .i64 0, .int .i64 0, .int .i64 0] := Blk.pure (by repeat' (first | (with_reducible assumption) | (with_reducible exact Blk.new _ _ _) | (with_reducible exact Blk.new' (by simp)) | (with_reducible refine Blk.alloc ?_ _) | (with_reducible refine Blk.drew ?_) | (with_reducible refine Blk.drewN ?_ _) | (with_reducible refine Blk.ne ?_ ?_ _) | omega | (simp; omega))) hb
    replace hB := below_pure (w := w) (by go_grown) hb
    clear hb; replace hsz := hB.size
    clear k0_c0 k0_f0 k0_c1 k0_f1 k0_c2 k0_f2 k0_z k1_c0 k1_f0 k1_c1 k1_f1 k1_z
    have k0_c0 : c3.cell? ⟨c1.heap.size, 0, none⟩ = some (.int .i64 s) := Blk.get k0 rfl
    have k0_f0 : c3.frozen? ⟨c1.heap.size, 0, none⟩ = false := Blk.frozen k0 0
    have k0_c1 : c3.cell? ⟨c1.heap.size, 1, none⟩ = some (.int .i64 x) := Blk.get k0 rfl
    have k0_f1 : c3.frozen? ⟨c1.heap.size, 1, none⟩ = false := Blk.frozen k0 1
    have k0_c2 : c3.cell? ⟨c1.heap.size, 2, none⟩ = some (.int .i64 o) := Blk.get k0 rfl
    have k0_f2 : c3.frozen? ⟨c1.heap.size, 2, none⟩ = false := Blk.frozen k0 2
    have k0_z : c1.heap.size < c3.heap.size := Blk.lt k0
    have k1_c0 : c3.cell? ⟨c1.heap.size + 1, 0, none⟩ = some (.int .i64 dx) := Blk.get k1 rfl
    have k1_f0 : c3.frozen? ⟨c1.heap.size + 1, 0, none⟩ = false := Blk.frozen k1 0
    have k1_c1 : c3.cell? ⟨c1.heap.size + 1, 1, none⟩ = some (.int .i64 dy) := Blk.get k1 rfl
    have k1_f1 : c3.frozen? ⟨c1.heap.size + 1, 1, none⟩ = false := Blk.frozen k1 1
    have k1_z : c1.heap.size + 1 < c3.heap.size := Blk.lt k1
    have k2_c0 : c3.cell? ⟨c2.heap.size, 0, none⟩ = some (.int .i64 0) := Blk.get k2 rfl
    have k2_f0 : c3.frozen? ⟨c2.heap.size, 0, none⟩ = false := Blk.frozen k2 0
    have k2_c1 : c3.cell? ⟨c2.heap.size, 1, none⟩ = some (.int .i64 0) := Blk.get k2 rfl
    have k2_f1 : c3.frozen? ⟨c2.heap.size, 1, none⟩ = false := Blk.frozen k2 1
    have k2_c2 : c3.cell? ⟨c2.heap.size, 2, none⟩ = some (.int .i64 0) := Blk.get k2 rfl
    have k2_f2 : c3.frozen? ⟨c2.heap.size, 2, none⟩ = false := Blk.frozen k2 2
    have k2_z : c2.heap.size < c3.heap.size := Blk.lt k2
    go_wp2_with fail
    go_call (alive_any _) as e c4 ⟨rfl, hb⟩
    replace k0 : Blk c4 (c1.heap.size) 36 #[.int .i64 s, .int .i64 x, .int .i64 o] := Blk.pure (by repeat' (first | (with_reducible assumption) | (with_reducible exact Blk.new _ _ _) | (with_reducible exact Blk.new' (by simp)) | (with_reducible refine Blk.alloc ?_ _) | (with_reducible refine Blk.drew ?_) | (with_reducible refine Blk.drewN ?_ _) | (with_reducible refine Blk.ne ?_ ?_ _) | omega | (simp; omega))) hb
    replace k1 : Blk c4 (c1.heap.size + 1) 25 #[.int .i64 dx, .int .i64 dy] := Blk.pure (by repeat' (first | (with_reducible assumption) | (with_reducible exact Blk.new _ _ _) | (with_reducible exact Blk.new' (by simp)) | (with_reducible refine Blk.alloc ?_ _) | (with_reducible refine Blk.drew ?_) | (with_reducible refine Blk.drewN ?_ _) | (with_reducible refine Blk.ne ?_ ?_ _) | omega | (simp; omega))) hb
    replace k2 : Blk c4 (c2.heap.size) 36 #[.int .i64 0, .int .i64 0, .int .i64 0] := Blk.pure (by repeat' (first | (with_reducible assumption) | (with_reducible exact Blk.new _ _ _) | (with_reducible exact Blk.new' (by simp)) | (with_reducible refine Blk.alloc ?_ _) | (with_reducible refine Blk.drew ?_) | (with_reducible refine Blk.drewN ?_ _) | (with_reducible refine Blk.ne ?_ ?_ _) | omega | (simp; omega))) hb
    have k3 : Blk c4 (c3.heap.size) 36 #[.int .i64 0, .int .i64 0, .int .i64 0] := Blk.pure (by repeat' (first | (with_reducible assumption) | (with_reducible exact Blk.new _ _ _) | (with_reducible exact Blk.new' (by simp)) | (with_reducible refine Blk.alloc ?_ _) | (with_reducible refine Blk.drew ?_) | (with_reducible refine Blk.drewN ?_ _) | (with_reducible refine Blk.ne ?_ ?_ _) | omega | (simp; omega))) hb
    replace hB := below_pure (w := w) (by go_grown) hb
    clear hb; replace hsz := hB.size
    clear k0_c0 k0_f0 k0_c1 k0_f1 k0_c2 k0_f2 k0_z k1_c0 k1_f0 k1_c1 k1_f1 k1_z k2_c0 k2_f0 k2_c1 k2_f1 k2_c2 k2_f2 k2_z
    have k0_c0 : c4.cell? ⟨c1.heap.size, 0, none⟩ = some (.int .i64 s) := Blk.get k0 rfl
    have k0_f0 : c4.frozen? ⟨c1.heap.size, 0, none⟩ = false := Blk.frozen k0 0
    have k0_c1 : c4.cell? ⟨c1.heap.size, 1, none⟩ = some (.int .i64 x) := Blk.get k0 rfl
    have k0_f1 : c4.frozen? ⟨c1.heap.size, 1, none⟩ = false := Blk.frozen k0 1
    have k0_c2 : c4.cell? ⟨c1.heap.size, 2, none⟩ = some (.int .i64 o) := Blk.get k0 rfl
    have k0_f2 : c4.frozen? ⟨c1.heap.size, 2, none⟩ = false := Blk.frozen k0 2
    have k0_z : c1.heap.size < c4.heap.size := Blk.lt k0
    have k1_c0 : c4.cell? ⟨c1.heap.size + 1, 0, none⟩ = some (.int .i64 dx) := Blk.get k1 rfl
    have k1_f0 : c4.frozen? ⟨c1.heap.size + 1, 0, none⟩ = false := Blk.frozen k1 0
    have k1_c1 : c4.cell? ⟨c1.heap.size + 1, 1, none⟩ = some (.int .i64 dy) := Blk.get k1 rfl
    have k1_f1 : c4.frozen? ⟨c1.heap.size + 1, 1, none⟩ = false := Blk.frozen k1 1
    have k1_z : c1.heap.size + 1 < c4.heap.size := Blk.lt k1
    have k2_c0 : c4.cell? ⟨c2.heap.size, 0, none⟩ = some (.int .i64 0) := Blk.get k2 rfl
    have k2_f0 : c4.frozen? ⟨c2.heap.size, 0, none⟩ = false := Blk.frozen k2 0
    have k2_c1 : c4.cell? ⟨c2.heap.size, 1, none⟩ = some (.int .i64 0) := Blk.get k2 rfl
    have k2_f1 : c4.frozen? ⟨c2.heap.size, 1, none⟩ = false := Blk.frozen k2 1
    have k2_c2 : c4.cell? ⟨c2.heap.size, 2, none⟩ = some (.int .i64 0) := Blk.get k2 rfl
    have k2_f2 : c4.frozen? ⟨c2.heap.size, 2, none⟩ = false := Blk.frozen k2 2
    have k2_z : c2.heap.size < c4.heap.size := Blk.lt k2
    have k3_c0 : c4.cell? ⟨c3.heap.size, 0, none⟩ = some (.int .i64 0) := Blk.get k3 rfl
    have k3_f0 : c4.frozen? ⟨c3.heap.size, 0, none⟩ = false := Blk.frozen k3 0
    have k3_c1 : c4.cell? ⟨c3.heap.size, 1, none⟩ = some (.int .i64 0) := Blk.get k3 rfl
    have k3_f1 : c4.frozen? ⟨c3.heap.size, 1, none⟩ = false := Blk.frozen k3 1
    have k3_c2 : c4.cell? ⟨c3.heap.size, 2, none⟩ = some (.int .i64 0) := Blk.get k3 rfl
    have k3_f2 : c4.frozen? ⟨c3.heap.size, 2, none⟩ = false := Blk.frozen k3 2
    have k3_z : c3.heap.size < c4.heap.size := Blk.lt k3
    go_wp2
    go_ret
    exact ⟨rfl, by go_grown⟩
  · obtain ⟨i1, i2, i3⟩ := addB_t hf
    obtain ⟨j0, j1, j2, j3⟩ := pwB_t i3
    obtain ⟨s', hs'⟩ : ∃ s', (placeV s x o + dx) % 7 = s' := ⟨_, rfl⟩
    obtain ⟨x', hx'⟩ : ∃ x', keyV s x o + dy - natu (placeV s x o + dx) = x' := ⟨_, rfl⟩
    obtain ⟨o', ho'⟩ : ∃ o', (placeV s x o + dx) / 7 = o' := ⟨_, rfl⟩
    rw [hs', hx', ho'] at j1 j2 j3
    clear hs' hx' ho' i3 j0 hbd
    obtain ⟨q0, q1, q2, q3, q4, q5⟩ := intB_t i2
    have HA := Lib.hid (fun W => addC (x := dx) (y := dy) i1 i2 j1 (by omega) (by omega) W)
    have HS := Lib.hid (fun W => specAddC (x := dx) (y := dy) i1 i2 j1 (by omega) (by omega) W)
    have HO := Lib.hid (fun W => ofC (x := dx) (y := dy) i1 j1 i2 (by omega) (by omega) W)
    have HC := Lib.hid (fun W => addC (x := -dx) (y := -dy) j1 (by rw [intB_neg]; exact i2) i1 (by omega) (by omega) W)
    clear j2 j3
    go_wp2_with fail
    go_call (HA.out _) as e c2 ⟨rfl, hb⟩
    have k0 : Blk c2 (c1.heap.size) 36 #[.int .i64 s, .int .i64 x, .int .i64 o] := Blk.pure (by repeat' (first | (with_reducible assumption) | (with_reducible exact Blk.new _ _ _) | (with_reducible exact Blk.new' (by simp)) | (with_reducible refine Blk.alloc ?_ _) | (with_reducible refine Blk.drew ?_) | (with_reducible refine Blk.drewN ?_ _) | (with_reducible refine Blk.ne ?_ ?_ _) | omega | (simp; omega))) hb
    have k1 : Blk c2 (c1.heap.size + 1) 25 #[.int .i64 dx, .int .i64 dy] := Blk.pure (by repeat' (first | (with_reducible assumption) | (with_reducible exact Blk.new _ _ _) | (with_reducible exact Blk.new' (by simp)) | (with_reducible refine Blk.alloc ?_ _) | (with_reducible refine Blk.drew ?_) | (with_reducible refine Blk.drewN ?_ _) | (with_reducible refine Blk.ne ?_ ?_ _) | omega | (simp; omega))) hb
    replace hB := below_pure (w := w) (by go_grown) hb
    clear hb; replace hsz := hB.size
    have k0_c0 : c2.cell? ⟨c1.heap.size, 0, none⟩ = some (.int .i64 s) := Blk.get k0 rfl
    have k0_f0 : c2.frozen? ⟨c1.heap.size, 0, none⟩ = false := Blk.frozen k0 0
    have k0_c1 : c2.cell? ⟨c1.heap.size, 1, none⟩ = some (.int .i64 x) := Blk.get k0 rfl
    have k0_f1 : c2.frozen? ⟨c1.heap.size, 1, none⟩ = false := Blk.frozen k0 1
    have k0_c2 : c2.cell? ⟨c1.heap.size, 2, none⟩ = some (.int .i64 o) := Blk.get k0 rfl
    have k0_f2 : c2.frozen? ⟨c1.heap.size, 2, none⟩ = false := Blk.frozen k0 2
    have k0_z : c1.heap.size < c2.heap.size := Blk.lt k0
    have k1_c0 : c2.cell? ⟨c1.heap.size + 1, 0, none⟩ = some (.int .i64 dx) := Blk.get k1 rfl
    have k1_f0 : c2.frozen? ⟨c1.heap.size + 1, 0, none⟩ = false := Blk.frozen k1 0
    have k1_c1 : c2.cell? ⟨c1.heap.size + 1, 1, none⟩ = some (.int .i64 dy) := Blk.get k1 rfl
    have k1_f1 : c2.frozen? ⟨c1.heap.size + 1, 1, none⟩ = false := Blk.frozen k1 1
    have k1_z : c1.heap.size + 1 < c2.heap.size := Blk.lt k1
    go_wp2_with fail
    go_call (HS.out _) as e c3 ⟨rfl, hb⟩
    replace k0 : Blk c3 (c1.heap.size) 36 #[.int .i64 s, .int .i64 x, .int .i64 o] := Blk.pure (by repeat' (first | (with_reducible assumption) | (with_reducible exact Blk.new _ _ _) | (with_reducible exact Blk.new' (by simp)) | (with_reducible refine Blk.alloc ?_ _) | (with_reducible refine Blk.drew ?_) | (with_reducible refine Blk.drewN ?_ _) | (with_reducible refine Blk.ne ?_ ?_ _) | omega | (simp; omega))) hb
    replace k1 : Blk c3 (c1.heap.size + 1) 25 #[.int .i64 dx, .int .i64 dy] := Blk.pure (by repeat' (first | (with_reducible assumption) | (with_reducible exact Blk.new _ _ _) | (with_reducible exact Blk.new' (by simp)) | (with_reducible refine Blk.alloc ?_ _) | (with_reducible refine Blk.drew ?_) | (with_reducible refine Blk.drewN ?_ _) | (with_reducible refine Blk.ne ?_ ?_ _) | omega | (simp; omega))) hb
    have k2 : Blk c3 (c2.heap.size) 36 #[.int .i64 s', .int .i64 x', .int .i64 o'] := Blk.pure (by repeat' (first | (with_reducible assumption) | (with_reducible exact Blk.new _ _ _) | (with_reducible exact Blk.new' (by simp)) | (with_reducible refine Blk.alloc ?_ _) | (with_reducible refine Blk.drew ?_) | (with_reducible refine Blk.drewN ?_ _) | (with_reducible refine Blk.ne ?_ ?_ _) | omega | (simp; omega))) hb
    replace hB := below_pure (w := w) (by go_grown) hb
    clear hb; replace hsz := hB.size
    clear k0_c0 k0_f0 k0_c1 k0_f1 k0_c2 k0_f2 k0_z k1_c0 k1_f0 k1_c1 k1_f1 k1_z
    have k0_c0 : c3.cell? ⟨c1.heap.size, 0, none⟩ = some (.int .i64 s) := Blk.get k0 rfl
    have k0_f0 : c3.frozen? ⟨c1.heap.size, 0, none⟩ = false := Blk.frozen k0 0
    have k0_c1 : c3.cell? ⟨c1.heap.size, 1, none⟩ = some (.int .i64 x) := Blk.get k0 rfl
    have k0_f1 : c3.frozen? ⟨c1.heap.size, 1, none⟩ = false := Blk.frozen k0 1
    have k0_c2 : c3.cell? ⟨c1.heap.size, 2, none⟩ = some (.int .i64 o) := Blk.get k0 rfl
    have k0_f2 : c3.frozen? ⟨c1.heap.size, 2, none⟩ = false := Blk.frozen k0 2
    have k0_z : c1.heap.size < c3.heap.size := Blk.lt k0
    have k1_c0 : c3.cell? ⟨c1.heap.size + 1, 0, none⟩ = some (.int .i64 dx) := Blk.get k1 rfl
    have k1_f0 : c3.frozen? ⟨c1.heap.size + 1, 0, none⟩ = false := Blk.frozen k1 0
    have k1_c1 : c3.cell? ⟨c1.heap.size + 1, 1, none⟩ = some (.int .i64 dy) := Blk.get k1 rfl
    have k1_f1 : c3.frozen? ⟨c1.heap.size + 1, 1, none⟩ = false := Blk.frozen k1 1
    have k1_z : c1.heap.size + 1 < c3.heap.size := Blk.lt k1
    have k2_c0 : c3.cell? ⟨c2.heap.size, 0, none⟩ = some (.int .i64 s') := Blk.get k2 rfl
    have k2_f0 : c3.frozen? ⟨c2.heap.size, 0, none⟩ = false := Blk.frozen k2 0
    have k2_c1 : c3.cell? ⟨c2.heap.size, 1, none⟩ = some (.int .i64 x') := Blk.get k2 rfl
    have k2_f1 : c3.frozen? ⟨c2.heap.size, 1, none⟩ = false := Blk.frozen k2 1
    have k2_c2 : c3.cell? ⟨c2.heap.size, 2, none⟩ = some (.int .i64 o') := Blk.get k2 rfl
    have k2_f2 : c3.frozen? ⟨c2.heap.size, 2, none⟩ = false := Blk.frozen k2 2
    have k2_z : c2.heap.size < c3.heap.size := Blk.lt k2
    go_wp2_with fail
    go_call (HO.out _) as e c4 ⟨rfl, hb⟩
    replace k0 : Blk c4 (c1.heap.size) 36 #[.int .i64 s, .int .i64 x, .int .i64 o] := Blk.pure (by repeat' (first | (with_reducible assumption) | (with_reducible exact Blk.new _ _ _) | (with_reducible exact Blk.new' (by simp)) | (with_reducible refine Blk.alloc ?_ _) | (with_reducible refine Blk.drew ?_) | (with_reducible refine Blk.drewN ?_ _) | (with_reducible refine Blk.ne ?_ ?_ _) | omega | (simp; omega))) hb
    replace k1 : Blk c4 (c1.heap.size + 1) 25 #[.int .i64 dx, .int .i64 dy] := Blk.pure (by repeat' (first | (with_reducible assumption) | (with_reducible exact Blk.new _ _ _) | (with_reducible exact Blk.new' (by simp)) | (with_reducible refine Blk.alloc ?_ _) | (with_reducible refine Blk.drew ?_) | (with_reducible refine Blk.drewN ?_ _) | (with_reducible refine Blk.ne ?_ ?_ _) | omega | (simp; omega))) hb
    replace k2 : Blk c4 (c2.heap.size) 36 #[.int .i64 s', .int .i64 x', .int .i64 o'] := Blk.pure (by repeat' (first | (with_reducible assumption) | (with_reducible exact Blk.new _ _ _) | (with_reducible exact Blk.new' (by simp)) | (with_reducible refine Blk.alloc ?_ _) | (with_reducible refine Blk.drew ?_) | (with_reducible refine Blk.drewN ?_ _) | (with_reducible refine Blk.ne ?_ ?_ _) | omega | (simp; omega))) hb
    have k3 : Blk c4 (c3.heap.size) 36 #[.int .i64 s', .int .i64 x', .int .i64 o'] := Blk.pure (by repeat' (first | (with_reducible assumption) | (with_reducible exact Blk.new _ _ _) | (with_reducible exact Blk.new' (by simp)) | (with_reducible refine Blk.alloc ?_ _) | (with_reducible refine Blk.drew ?_) | (with_reducible refine Blk.drewN ?_ _) | (with_reducible refine Blk.ne ?_ ?_ _) | omega | (simp; omega))) hb
    replace hB := below_pure (w := w) (by go_grown) hb
    clear hb; replace hsz := hB.size
    clear k0_c0 k0_f0 k0_c1 k0_f1 k0_c2 k0_f2 k0_z k1_c0 k1_f0 k1_c1 k1_f1 k1_z k2_c0 k2_f0 k2_c1 k2_f1 k2_c2 k2_f2 k2_z
    have k0_c0 : c4.cell? ⟨c1.heap.size, 0, none⟩ = some (.int .i64 s) := Blk.get k0 rfl
    have k0_f0 : c4.frozen? ⟨c1.heap.size, 0, none⟩ = false := Blk.frozen k0 0
    have k0_c1 : c4.cell? ⟨c1.heap.size, 1, none⟩ = some (.int .i64 x) := Blk.get k0 rfl
    have k0_f1 : c4.frozen? ⟨c1.heap.size, 1, none⟩ = false := Blk.frozen k0 1
    have k0_c2 : c4.cell? ⟨c1.heap.size, 2, none⟩ = some (.int .i64 o) := Blk.get k0 rfl
    have k0_f2 : c4.frozen? ⟨c1.heap.size, 2, none⟩ = false := Blk.frozen k0 2
    have k0_z : c1.heap.size < c4.heap.size := Blk.lt k0
    have k1_c0 : c4.cell? ⟨c1.heap.size + 1, 0, none⟩ = some (.int .i64 dx) := Blk.get k1 rfl
    have k1_f0 : c4.frozen? ⟨c1.heap.size + 1, 0, none⟩ = false := Blk.frozen k1 0
    have k1_c1 : c4.cell? ⟨c1.heap.size + 1, 1, none⟩ = some (.int .i64 dy) := Blk.get k1 rfl
    have k1_f1 : c4.frozen? ⟨c1.heap.size + 1, 1, none⟩ = false := Blk.frozen k1 1
    have k1_z : c1.heap.size + 1 < c4.heap.size := Blk.lt k1
    have k2_c0 : c4.cell? ⟨c2.heap.size, 0, none⟩ = some (.int .i64 s') := Blk.get k2 rfl
    have k2_f0 : c4.frozen? ⟨c2.heap.size, 0, none⟩ = false := Blk.frozen k2 0
    have k2_c1 : c4.cell? ⟨c2.heap.size, 1, none⟩ = some (.int .i64 x') := Blk.get k2 rfl
    have k2_f1 : c4.frozen? ⟨c2.heap.size, 1, none⟩ = false := Blk.frozen k2 1
    have k2_c2 : c4.cell? ⟨c2.heap.size, 2, none⟩ = some (.int .i64 o') := Blk.get k2 rfl
    have k2_f2 : c4.frozen? ⟨c2.heap.size, 2, none⟩ = false := Blk.frozen k2 2
    have k2_z : c2.heap.size < c4.heap.size := Blk.lt k2
    have k3_c0 : c4.cell? ⟨c3.heap.size, 0, none⟩ = some (.int .i64 s') := Blk.get k3 rfl
    have k3_f0 : c4.frozen? ⟨c3.heap.size, 0, none⟩ = false := Blk.frozen k3 0
    have k3_c1 : c4.cell? ⟨c3.heap.size, 1, none⟩ = some (.int .i64 x') := Blk.get k3 rfl
    have k3_f1 : c4.frozen? ⟨c3.heap.size, 1, none⟩ = false := Blk.frozen k3 1
    have k3_c2 : c4.cell? ⟨c3.heap.size, 2, none⟩ = some (.int .i64 o') := Blk.get k3 rfl
    have k3_f2 : c4.frozen? ⟨c3.heap.size, 2, none⟩ = false := Blk.frozen k3 2
    have k3_z : c3.heap.size < c4.heap.size := Blk.lt k3
    go_upto_region 11 with fail
    have ordk0 := k0_z
    have ordk1 := k1_z
    have ordk2 := k2_z
    have ordk3 := k3_z
    replace k0 : Blk (c4.alloc (Obj.cells #[.int .i64 dx, .int .i64 dy] 25)) (c1.heap.size) 36 #[.int .i64 s, .int .i64 x, .int .i64 o] := Blk.alloc k0 _
    replace k1 : Blk (c4.alloc (Obj.cells #[.int .i64 dx, .int .i64 dy] 25)) (c1.heap.size + 1) 25 #[.int .i64 dx, .int .i64 dy] := Blk.alloc k1 _
    replace k2 : Blk (c4.alloc (Obj.cells #[.int .i64 dx, .int .i64 dy] 25)) (c2.heap.size) 36 #[.int .i64 s', .int .i64 x', .int .i64 o'] := Blk.alloc k2 _
    replace k3 : Blk (c4.alloc (Obj.cells #[.int .i64 dx, .int .i64 dy] 25)) (c3.heap.size) 36 #[.int .i64 s', .int .i64 x', .int .i64 o'] := Blk.alloc k3 _
    have k4 : Blk (c4.alloc (Obj.cells #[.int .i64 dx, .int .i64 dy] 25)) (c4.heap.size) 25 #[.int .i64 dx, .int .i64 dy] := Blk.new _ _ _
    replace hB : Below w.heap.size w (c4.alloc (Obj.cells #[.int .i64 dx, .int .i64 dy] 25)) := by go_grown
    generalize (c4.alloc (Obj.cells #[.int .i64 dx, .int .i64 dy] 25)) = cx5 at *
    clear k0_c0 k0_f0 k0_c1 k0_f1 k0_c2 k0_f2 k0_z k1_c0 k1_f0 k1_c1 k1_f1 k1_z k2_c0 k2_f0 k2_c1 k2_f1 k2_c2 k2_f2 k2_z k3_c0 k3_f0 k3_c1 k3_f1 k3_c2 k3_f2 k3_z
    have k0_c0 : cx5.cell? ⟨c1.heap.size, 0, none⟩ = some (.int .i64 s) := Blk.get k0 rfl
    have k0_f0 : cx5.frozen? ⟨c1.heap.size, 0, none⟩ = false := Blk.frozen k0 0
    have k0_c1 : cx5.cell? ⟨c1.heap.size, 1, none⟩ = some (.int .i64 x) := Blk.get k0 rfl
    have k0_f1 : cx5.frozen? ⟨c1.heap.size, 1, none⟩ = false := Blk.frozen k0 1
    have k0_c2 : cx5.cell? ⟨c1.heap.size, 2, none⟩ = some (.int .i64 o) := Blk.get k0 rfl
    have k0_f2 : cx5.frozen? ⟨c1.heap.size, 2, none⟩ = false := Blk.frozen k0 2
    have k0_z : c1.heap.size < cx5.heap.size := Blk.lt k0
    have k1_c0 : cx5.cell? ⟨c1.heap.size + 1, 0, none⟩ = some (.int .i64 dx) := Blk.get k1 rfl
    have k1_f0 : cx5.frozen? ⟨c1.heap.size + 1, 0, none⟩ = false := Blk.frozen k1 0
    have k1_c1 : cx5.cell? ⟨c1.heap.size + 1, 1, none⟩ = some (.int .i64 dy) := Blk.get k1 rfl
    have k1_f1 : cx5.frozen? ⟨c1.heap.size + 1, 1, none⟩ = false := Blk.frozen k1 1
    have k1_z : c1.heap.size + 1 < cx5.heap.size := Blk.lt k1
    have k2_c0 : cx5.cell? ⟨c2.heap.size, 0, none⟩ = some (.int .i64 s') := Blk.get k2 rfl
    have k2_f0 : cx5.frozen? ⟨c2.heap.size, 0, none⟩ = false := Blk.frozen k2 0
    have k2_c1 : cx5.cell? ⟨c2.heap.size, 1, none⟩ = some (.int .i64 x') := Blk.get k2 rfl
    have k2_f1 : cx5.frozen? ⟨c2.heap.size, 1, none⟩ = false := Blk.frozen k2 1
    have k2_c2 : cx5.cell? ⟨c2.heap.size, 2, none⟩ = some (.int .i64 o') := Blk.get k2 rfl
    have k2_f2 : cx5.frozen? ⟨c2.heap.size, 2, none⟩ = false := Blk.frozen k2 2
    have k2_z : c2.heap.size < cx5.heap.size := Blk.lt k2
    have k3_c0 : cx5.cell? ⟨c3.heap.size, 0, none⟩ = some (.int .i64 s') := Blk.get k3 rfl
    have k3_f0 : cx5.frozen? ⟨c3.heap.size, 0, none⟩ = false := Blk.frozen k3 0
    have k3_c1 : cx5.cell? ⟨c3.heap.size, 1, none⟩ = some (.int .i64 x') := Blk.get k3 rfl
    have k3_f1 : cx5.frozen? ⟨c3.heap.size, 1, none⟩ = false := Blk.frozen k3 1
    have k3_c2 : cx5.cell? ⟨c3.heap.size, 2, none⟩ = some (.int .i64 o') := Blk.get k3 rfl
    have k3_f2 : cx5.frozen? ⟨c3.heap.size, 2, none⟩ = false := Blk.frozen k3 2
    have k3_z : c3.heap.size < cx5.heap.size := Blk.lt k3
    have k4_c0 : cx5.cell? ⟨c4.heap.size, 0, none⟩ = some (.int .i64 dx) := Blk.get k4 rfl
    have k4_f0 : cx5.frozen? ⟨c4.heap.size, 0, none⟩ = false := Blk.frozen k4 0
    have k4_c1 : cx5.cell? ⟨c4.heap.size, 1, none⟩ = some (.int .i64 dy) := Blk.get k4 rfl
    have k4_f1 : cx5.frozen? ⟨c4.heap.size, 1, none⟩ = false := Blk.frozen k4 1
    have k4_z : c4.heap.size < cx5.heap.size := Blk.lt k4
    go_upto_region 11 with fail
    go_cut [11, 12] (fun v11 v12 wc => Blk wc (c1.heap.size) 36 #[.int .i64 s, .int .i64 x, .int .i64 o] ∧ Blk wc (c1.heap.size + 1) 25 #[.int .i64 dx, .int .i64 dy] ∧ Blk wc (c2.heap.size) 36 #[.int .i64 s', .int .i64 x', .int .i64 o'] ∧ Blk wc (c3.heap.size) 36 #[.int .i64 s', .int .i64 x', .int .i64 o'] ∧ Blk wc (c4.heap.size) 25 #[.int .i64 dx, .int .i64 dy] ∧ Below w.heap.size w wc ∧ v12 = .bool true ∧ ∃ g : Nat, v11 = .pointer (some ⟨g, 0, none⟩) ∧ Blk wc g 36 #[.int .i64 s, .int .i64 x, .int .i64 o] ∧ c4.heap.size < g)
    case first =>
      have HSd := Lib.hid (show Blk cx5.drew (c1.heap.size) 36 #[.int .i64 s, .int .i64 x, .int .i64 o] ∧ Blk cx5.drew (c1.heap.size + 1) 25 #[.int .i64 dx, .int .i64 dy] ∧ cx5.drew.cell? ⟨c1.heap.size + 1, 0, none⟩ = some (.int .i64 dx) ∧ cx5.drew.cell? ⟨c1.heap.size + 1, 1, none⟩ = some (.int .i64 dy) ∧ Blk cx5.drew (c2.heap.size) 36 #[.int .i64 s', .int .i64 x', .int .i64 o'] ∧ cx5.drew.cell? ⟨c2.heap.size, 0, none⟩ = some (.int .i64 s') ∧ cx5.drew.cell? ⟨c2.heap.size, 1, none⟩ = some (.int .i64 x') ∧ cx5.drew.cell? ⟨c2.heap.size, 2, none⟩ = some (.int .i64 o') ∧ Blk cx5.drew (c3.heap.size) 36 #[.int .i64 s', .int .i64 x', .int .i64 o'] ∧ Blk cx5.drew (c4.heap.size) 25 #[.int .i64 dx, .int .i64 dy] ∧ Below w.heap.size w cx5.drew from ⟨k0, k1, k1_c0, k1_c1, k2, k2_c0, k2_c1, k2_c2, k3, k4, hB.drew⟩)
      have hz : c4.heap.size < cx5.heap.size := k4_z
      clear hB k0_c0 k0_f0 k0_c1 k0_f1 k0_c2 k0_f2 k0_z k1_c0 k1_f0 k1_c1 k1_f1 k1_z k2_c0 k2_f0 k2_c1 k2_f1 k2_c2 k2_f2 k2_z k3_c0 k3_f0 k3_c1 k3_f1 k3_c2 k3_f2 k3_z k4_c0 k4_f0 k4_c1 k4_f1 k4_z k0 k1 k2 k3 k4
      go_region_held3 (fun w' => Blk w' (c1.heap.size) 36 #[.int .i64 s, .int .i64 x, .int .i64 o] ∧ Blk w' (c1.heap.size + 1) 25 #[.int .i64 dx, .int .i64 dy] ∧ w'.cell? ⟨c1.heap.size + 1, 0, none⟩ = some (.int .i64 dx) ∧ w'.cell? ⟨c1.heap.size + 1, 1, none⟩ = some (.int .i64 dy) ∧ Blk w' (c2.heap.size) 36 #[.int .i64 s', .int .i64 x', .int .i64 o'] ∧ w'.cell? ⟨c2.heap.size, 0, none⟩ = some (.int .i64 s') ∧ w'.cell? ⟨c2.heap.size, 1, none⟩ = some (.int .i64 x') ∧ w'.cell? ⟨c2.heap.size, 2, none⟩ = some (.int .i64 o') ∧ Blk w' (c3.heap.size) 36 #[.int .i64 s', .int .i64 x', .int .i64 o'] ∧ Blk w' (c4.heap.size) 25 #[.int .i64 dx, .int .i64 dy] ∧ Below w.heap.size w w')
        (first | exact HSd.out | (go_split_ands; go_split_ands; (repeat' apply And.intro) <;> first | (with_reducible assumption) | (with_reducible exact Blk.pure (by assumption) hbc) | (with_reducible exact Blk.get (Blk.pure (by assumption) hbc) rfl) | (with_reducible exact below_pure (by assumption) hbc) | (with_reducible exact Blk.alloc (by assumption) _) | (with_reducible exact Blk.get (Blk.alloc (by assumption) _) rfl) | (with_reducible exact Below.alloc (by assumption) (Below.size (by assumption)) _) | (with_reducible exact Blk.drew (Blk.alloc (Blk.undrew (by assumption)) _)) | (with_reducible exact Blk.get (Blk.drew (Blk.alloc (Blk.undrew (by assumption)) _)) rfl) | (with_reducible exact Below.drew (Below.alloc (below_undrew (by assumption)) (Below.size (below_undrew (by assumption))) _)) | (with_reducible exact Blk.swap (by assumption) (by omega)) | (with_reducible exact Blk.get (Blk.swap (by assumption) (by omega)) rfl) | (with_reducible exact below_swap (by assumption) (by omega)) | (with_reducible exact (Blk.ne (Blk.ne (Blk.ne (by assumption) (by first | omega | (simp; omega)) _) (by first | omega | (simp; omega)) _) (by first | omega | (simp; omega)) _)) | (with_reducible exact Blk.get (Blk.ne (Blk.ne (Blk.ne (by assumption) (by first | omega | (simp; omega)) _) (by first | omega | (simp; omega)) _) (by first | omega | (simp; omega)) _) rfl) | (with_reducible exact (Below.setCell (Below.setCell (Below.setCell (by assumption) (by first | omega | (simp; omega)) _) (by first | omega | (simp; omega)) _) (by first | omega | (simp; omega)) _))))
        (first | ((go_at_call 21; refine (backC i2 _).mono ?_; rintro e w2 ⟨rfl, hbc⟩); have hz : c4.heap.size < w2.heap.size := (by (go_split_ands; refine Nat.lt_of_lt_of_le ?_ hbc.size; exact Blk.lt (by assumption))); (try have hN := Blk.pure hN hbc); (try have hN := Blk.pure (Blk.drew hN) hbc); (try have hN := Blk.new_pure hbc); (try have hN := Blk.new_pure_drew hbc); (try (have hN0 := Blk.get (i := 0) hN rfl; have hM0 := hN.frozen 0; have hN1 := Blk.get (i := 1) hN rfl; have hM1 := hN.frozen 1; have hN2 := Blk.get (i := 2) hN rfl; have hM2 := hN.frozen 2))) | ((go_at_call 29; refine (HC.out _).mono ?_; rintro e w2 ⟨rfl, hbc⟩); have hz : c4.heap.size < w2.heap.size := (by (go_split_ands; refine Nat.lt_of_lt_of_le ?_ hbc.size; exact Blk.lt (by assumption))); (try have hN := Blk.pure hN hbc); (try have hN := Blk.pure (Blk.drew hN) hbc); (try have hN := Blk.new_pure hbc); (try have hN := Blk.new_pure_drew hbc); (try (have hN0 := Blk.get (i := 0) hN rfl; have hM0 := hN.frozen 0; have hN1 := Blk.get (i := 1) hN rfl; have hM1 := hN.frozen 1; have hN2 := Blk.get (i := 2) hN rfl; have hM2 := hN.frozen 2))))
      all_goals
        clear HSd
        go_wp2_with fail
        go_meet
        go_split_ands
        refine ⟨by assumption, by assumption, by assumption, by assumption, by assumption, by assumption, rfl, _, rfl, ?_, ?_⟩
        · first | exact Blk.put3 hN | exact Blk.new' rfl
        · omega
    case rest =>
      clear hB k0_c0 k0_f0 k0_c1 k0_f1 k0_c2 k0_f2 k0_z k1_c0 k1_f0 k1_c1 k1_f1 k1_z k2_c0 k2_f0 k2_c1 k2_f1 k2_c2 k2_f2 k2_z k3_c0 k3_f0 k3_c1 k3_f1 k3_c2 k3_f2 k3_z k4_c0 k4_f0 k4_c1 k4_f1 k4_z k0 k1 k2 k3 k4
      obtain ⟨k0, k1, k2, k3, k4, hB, rfl, g5, rfl, k5, hg5⟩ := hcut
      have k0_c0 : wc.cell? ⟨c1.heap.size, 0, none⟩ = some (.int .i64 s) := Blk.get k0 rfl
      have k0_f0 : wc.frozen? ⟨c1.heap.size, 0, none⟩ = false := Blk.frozen k0 0
      have k0_c1 : wc.cell? ⟨c1.heap.size, 1, none⟩ = some (.int .i64 x) := Blk.get k0 rfl
      have k0_f1 : wc.frozen? ⟨c1.heap.size, 1, none⟩ = false := Blk.frozen k0 1
      have k0_c2 : wc.cell? ⟨c1.heap.size, 2, none⟩ = some (.int .i64 o) := Blk.get k0 rfl
      have k0_f2 : wc.frozen? ⟨c1.heap.size, 2, none⟩ = false := Blk.frozen k0 2
      have k0_z : c1.heap.size < wc.heap.size := Blk.lt k0
      have k1_c0 : wc.cell? ⟨c1.heap.size + 1, 0, none⟩ = some (.int .i64 dx) := Blk.get k1 rfl
      have k1_f0 : wc.frozen? ⟨c1.heap.size + 1, 0, none⟩ = false := Blk.frozen k1 0
      have k1_c1 : wc.cell? ⟨c1.heap.size + 1, 1, none⟩ = some (.int .i64 dy) := Blk.get k1 rfl
      have k1_f1 : wc.frozen? ⟨c1.heap.size + 1, 1, none⟩ = false := Blk.frozen k1 1
      have k1_z : c1.heap.size + 1 < wc.heap.size := Blk.lt k1
      have k2_c0 : wc.cell? ⟨c2.heap.size, 0, none⟩ = some (.int .i64 s') := Blk.get k2 rfl
      have k2_f0 : wc.frozen? ⟨c2.heap.size, 0, none⟩ = false := Blk.frozen k2 0
      have k2_c1 : wc.cell? ⟨c2.heap.size, 1, none⟩ = some (.int .i64 x') := Blk.get k2 rfl
      have k2_f1 : wc.frozen? ⟨c2.heap.size, 1, none⟩ = false := Blk.frozen k2 1
      have k2_c2 : wc.cell? ⟨c2.heap.size, 2, none⟩ = some (.int .i64 o') := Blk.get k2 rfl
      have k2_f2 : wc.frozen? ⟨c2.heap.size, 2, none⟩ = false := Blk.frozen k2 2
      have k2_z : c2.heap.size < wc.heap.size := Blk.lt k2
      have k3_c0 : wc.cell? ⟨c3.heap.size, 0, none⟩ = some (.int .i64 s') := Blk.get k3 rfl
      have k3_f0 : wc.frozen? ⟨c3.heap.size, 0, none⟩ = false := Blk.frozen k3 0
      have k3_c1 : wc.cell? ⟨c3.heap.size, 1, none⟩ = some (.int .i64 x') := Blk.get k3 rfl
      have k3_f1 : wc.frozen? ⟨c3.heap.size, 1, none⟩ = false := Blk.frozen k3 1
      have k3_c2 : wc.cell? ⟨c3.heap.size, 2, none⟩ = some (.int .i64 o') := Blk.get k3 rfl
      have k3_f2 : wc.frozen? ⟨c3.heap.size, 2, none⟩ = false := Blk.frozen k3 2
      have k3_z : c3.heap.size < wc.heap.size := Blk.lt k3
      have k4_c0 : wc.cell? ⟨c4.heap.size, 0, none⟩ = some (.int .i64 dx) := Blk.get k4 rfl
      have k4_f0 : wc.frozen? ⟨c4.heap.size, 0, none⟩ = false := Blk.frozen k4 0
      have k4_c1 : wc.cell? ⟨c4.heap.size, 1, none⟩ = some (.int .i64 dy) := Blk.get k4 rfl
      have k4_f1 : wc.frozen? ⟨c4.heap.size, 1, none⟩ = false := Blk.frozen k4 1
      have k4_z : c4.heap.size < wc.heap.size := Blk.lt k4
      have k5_c0 : wc.cell? ⟨g5, 0, none⟩ = some (.int .i64 s) := Blk.get k5 rfl
      have k5_f0 : wc.frozen? ⟨g5, 0, none⟩ = false := Blk.frozen k5 0
      have k5_c1 : wc.cell? ⟨g5, 1, none⟩ = some (.int .i64 x) := Blk.get k5 rfl
      have k5_f1 : wc.frozen? ⟨g5, 1, none⟩ = false := Blk.frozen k5 1
      have k5_c2 : wc.cell? ⟨g5, 2, none⟩ = some (.int .i64 o) := Blk.get k5 rfl
      have k5_f2 : wc.frozen? ⟨g5, 2, none⟩ = false := Blk.frozen k5 2
      have k5_z : g5 < wc.heap.size := Blk.lt k5
      have hsz := hB.size
      go_wp2
      go_ret
      exact ⟨rfl, by go_grown⟩
end Go.Proofs.Ytelmcidbengcdaa

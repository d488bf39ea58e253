/- The walk of the law FnOctaveUp: it returns true, and nothing that was there turns. No condition. -/
import Derived.Test.YtojkbeffhjcaiaaDi
import Derived.Test.YtojkbeffhjcaiaaAl
import Derived.Test.YtojkbeffhjcaiaaKm
import Derived.Test.YtojkbeffhjcaiaaIm
namespace Go.Proofs.Ytojkbeffhjcaiaa
open Go.RowKit

set_option maxHeartbeats 8000000 in
set_option maxRecDepth 100000 in
theorem fnOctaveUp_walk (a : Option Addr) (len cap : Nat) (w : World) (hC : Code' w a len cap) :
    Calls Try.prog 16 #[.slice a len cap] w (Gives (.bool true) w) := by
  by_cases hlen : 1048576 < len
  · have hcap : len ≤ 9223372036854775807 := by have h1 := hC.2.1; have h2 := hC.2.2; unfold maxLen at h2; omega
    go_enter Try.func16, Try.ntmps16
    go_wp2
    go_ret
    exact ⟨rfl, by go_grown⟩
  have hlen' : len ≤ 1048576 := by omega
  have HC := Lib.hid hC
  clear hC
  go_enter Try.func16, Try.ntmps16
  go_wp2_with fail
  refine (drawAddInterval_any _ _ _ _ HC.out hlen').mono ?_
  rintro e c1 ⟨s, x, o, dx, dy, rfl, hbd, hb⟩
  have hB : Below w.heap.size w c1 := by have h := below_pure (w := w) (by go_grown) hb; exact h
  have hsz := hB.size
  clear hb HC
  obtain ⟨A, B, C, b, HA, HS⟩ : ∃ (A B C : Int) (b : Bool), Hid (∀ W, Calls Try.prog 46 #[.agg #[.int .i64 s, .int .i64 x, .int .i64 o], .agg #[.int .i64 dx, .int .i64 dy]] W (Gives (.tuple #[.agg #[.int .i64 A, .int .i64 B, .int .i64 C], .bool b]) W)) ∧ Hid (∀ W, Calls Try.prog 47 #[.agg #[.int .i64 s, .int .i64 x, .int .i64 o], .agg #[.int .i64 dx, .int .i64 dy]] W (Gives (.tuple #[.agg #[.int .i64 A, .int .i64 B, .int .i64 C], .bool b]) W)) :=
    ⟨_, _, _, _, Lib.hid (fun W => addInterval_any s x o dx dy W _ _ rfl rfl), Lib.hid (fun W => specAddInterval_any s x o dx dy W _ _ rfl rfl)⟩
  cases hf : addB s x o 7 12
  · clear hbd
    go_wp2_with fail
    go_call (HA.out _) as e c2 ⟨rfl, hb⟩
    have k0 : Blk c2 (c1.heap.size) 27 #[.int .i64 s, .int .i64 x, .int .i64 o] := Blk.pure (by repeat' (first | (with_reducible assumption) | (with_reducible exact Blk.new _ _ _) | (with_reducible exact Blk.new' (by simp)) | (with_reducible refine Blk.alloc ?_ _) | (with_reducible refine Blk.drew ?_) | (with_reducible refine Blk.drewN ?_ _) | (with_reducible refine Blk.ne ?_ ?_ _) | omega | (simp; omega))) hb
    have k1 : Blk c2 (c1.heap.size + 1) 57 #[.int .i64 dx, .int .i64 dy] := Blk.pure (by repeat' (first | (with_reducible assumption) | (with_reducible exact Blk.new _ _ _) | (with_reducible exact Blk.new' (by simp)) | (with_reducible refine Blk.alloc ?_ _) | (with_reducible refine Blk.drew ?_) | (with_reducible refine Blk.drewN ?_ _) | (with_reducible refine Blk.ne ?_ ?_ _) | omega | (simp; omega))) hb
    replace hB := below_pure (w := w) (by go_grown) hb
    clear hb; replace hsz := hB.size
    have k0_c0 : c2.cell? ⟨c1.heap.size, 0, none⟩ = some (.int .i64 s) := Blk.get k0 rfl
    have k0_f0 : c2.frozen? ⟨c1.heap.size, 0, none⟩ = false := Blk.frozen k0 0
    have k0_c1 : c2.cell? ⟨c1.heap.size, 1, none⟩ = some (.int .i64 x) := Blk.get k0 rfl
    have k0_f1 : c2.frozen? ⟨c1.heap.size, 1, none⟩ = false := Blk.frozen k0 1
    have k0_c2 : c2.cell? ⟨c1.heap.size, 2, none⟩ = some (.int .i64 o) := Blk.get k0 rfl
    have k0_f2 : c2.frozen? ⟨c1.heap.size, 2, none⟩ = false := Blk.frozen k0 2
    have k0_z : c1.heap.size < c2.heap.size := Blk.lt k0
    have k1_c0 : c2.cell? ⟨c1.heap.size + 1, 0, none⟩ = some (.int .i64 dx) := Blk.get k1 rfl
    have k1_f0 : c2.frozen? ⟨c1.heap.size + 1, 0, none⟩ = false := Blk.frozen k1 0
    have k1_c1 : c2.cell? ⟨c1.heap.size + 1, 1, none⟩ = some (.int .i64 dy) := Blk.get k1 rfl
    have k1_f1 : c2.frozen? ⟨c1.heap.size + 1, 1, none⟩ = false := Blk.frozen k1 1
    have k1_z : c1.heap.size + 1 < c2.heap.size := Blk.lt k1
    go_wp2_with fail
    go_call (HS.out _) as e c3 ⟨rfl, hb⟩
    replace k0 : Blk c3 (c1.heap.size) 27 #[.int .i64 s, .int .i64 x, .int .i64 o] := Blk.pure (by repeat' (first | (with_reducible assumption) | (with_reducible exact Blk.new _ _ _) | (with_reducible exact Blk.new' (by simp)) | (with_reducible refine Blk.alloc ?_ _) | (with_reducible refine Blk.drew ?_) | (with_reducible refine Blk.drewN ?_ _) | (with_reducible refine Blk.ne ?_ ?_ _) | omega | (simp; omega))) hb
    replace k1 : Blk c3 (c1.heap.size + 1) 57 #[.int .i64 dx, .int .i64 dy] := Blk.pure (by repeat' (first | (with_reducible assumption) | (with_reducible exact Blk.new _ _ _) | (with_reducible exact Blk.new' (by simp)) | (with_reducible refine Blk.alloc ?_ _) | (with_reducible refine Blk.drew ?_) | (with_reducible refine Blk.drewN ?_ _) | (with_reducible refine Blk.ne ?_ ?_ _) | omega | (simp; omega))) hb
    have k2 : Blk c3 (c2.heap.size) 27 #[.int .i64 A, .int .i64 B, .int .i64 C] := Blk.pure (by repeat' (first | (with_reducible assumption) | (with_reducible exact Blk.new _ _ _) | (with_reducible exact Blk.new' (by simp)) | (with_reducible refine Blk.alloc ?_ _) | (with_reducible refine Blk.drew ?_) | (with_reducible refine Blk.drewN ?_ _) | (with_reducible refine Blk.ne ?_ ?_ _) | omega | (simp; omega))) hb
    replace hB := below_pure (w := w) (by go_grown) hb
    clear hb; replace hsz := hB.size
    clear k0_c0 k0_f0 k0_c1 k0_f1 k0_c2 k0_f2 k0_z k1_c0 k1_f0 k1_c1 k1_f1 k1_z
    have k0_c0 : c3.cell? ⟨c1.heap.size, 0, none⟩ = some (.int .i64 s) := Blk.get k0 rfl
    have k0_f0 : c3.frozen? ⟨c1.heap.size, 0, none⟩ = false := Blk.frozen k0 0
    have k0_c1 : c3.cell? ⟨c1.heap.size, 1, none⟩ = some (.int .i64 x) := Blk.get k0 rfl
    have k0_f1 : c3.frozen? ⟨c1.heap.size, 1, none⟩ = false := Blk.frozen k0 1
    have k0_c2 : c3.cell? ⟨c1.heap.size, 2, none⟩ = some (.int .i64 o) := Blk.get k0 rfl
    have k0_f2 : c3.frozen? ⟨c1.heap.size, 2, none⟩ = false := Blk.frozen k0 2
    have k0_z : c1.heap.size < c3.heap.size := Blk.lt k0
    have k1_c0 : c3.cell? ⟨c1.heap.size + 1, 0, none⟩ = some (.int .i64 dx) := Blk.get k1 rfl
    have k1_f0 : c3.frozen? ⟨c1.heap.size + 1, 0, none⟩ = false := Blk.frozen k1 0
    have k1_c1 : c3.cell? ⟨c1.heap.size + 1, 1, none⟩ = some (.int .i64 dy) := Blk.get k1 rfl
    have k1_f1 : c3.frozen? ⟨c1.heap.size + 1, 1, none⟩ = false := Blk.frozen k1 1
    have k1_z : c1.heap.size + 1 < c3.heap.size := Blk.lt k1
    have k2_c0 : c3.cell? ⟨c2.heap.size, 0, none⟩ = some (.int .i64 A) := Blk.get k2 rfl
    have k2_f0 : c3.frozen? ⟨c2.heap.size, 0, none⟩ = false := Blk.frozen k2 0
    have k2_c1 : c3.cell? ⟨c2.heap.size, 1, none⟩ = some (.int .i64 B) := Blk.get k2 rfl
    have k2_f1 : c3.frozen? ⟨c2.heap.size, 1, none⟩ = false := Blk.frozen k2 1
    have k2_c2 : c3.cell? ⟨c2.heap.size, 2, none⟩ = some (.int .i64 C) := Blk.get k2 rfl
    have k2_f2 : c3.frozen? ⟨c2.heap.size, 2, none⟩ = false := Blk.frozen k2 2
    have k2_z : c2.heap.size < c3.heap.size := Blk.lt k2
    go_wp2_with fail
    go_call (addF hf _) as e c4 ⟨rfl, hb⟩
    replace k0 : Blk c4 (c1.heap.size) 27 #[.int .i64 s, .int .i64 x, .int .i64 o] := Blk.pure (by repeat' (first | (with_reducible assumption) | (with_reducible exact Blk.new _ _ _) | (with_reducible exact Blk.new' (by simp)) | (with_reducible refine Blk.alloc ?_ _) | (with_reducible refine Blk.drew ?_) | (with_reducible refine Blk.drewN ?_ _) | (with_reducible refine Blk.ne ?_ ?_ _) | omega | (simp; omega))) hb
    replace k1 : Blk c4 (c1.heap.size + 1) 57 #[.int .i64 dx, .int .i64 dy] := Blk.pure (by repeat' (first | (with_reducible assumption) | (with_reducible exact Blk.new _ _ _) | (with_reducible exact Blk.new' (by simp)) | (with_reducible refine Blk.alloc ?_ _) | (with_reducible refine Blk.drew ?_) | (with_reducible refine Blk.drewN ?_ _) | (with_reducible refine Blk.ne ?_ ?_ _) | omega | (simp; omega))) hb
    replace k2 : Blk c4 (c2.heap.size) 27 #[.int .i64 A, .int .i64 B, .int .i64 C] := Blk.pure (by repeat' (first | (with_reducible assumption) | (with_reducible exact Blk.new _ _ _) | (with_reducible exact Blk.new' (by simp)) | (with_reducible refine Blk.alloc ?_ _) | (with_reducible refine Blk.drew ?_) | (with_reducible refine Blk.drewN ?_ _) | (with_reducible refine Blk.ne ?_ ?_ _) | omega | (simp; omega))) hb
    have k3 : Blk c4 (c3.heap.size) 27 #[.int .i64 A, .int .i64 B, .int .i64 C] := Blk.pure (by repeat' (first | (with_reducible assumption) | (with_reducible exact Blk.new _ _ _) | (with_reducible exact Blk.new' (by simp)) | (with_reducible refine Blk.alloc ?_ _) | (with_reducible refine Blk.drew ?_) | (with_reducible refine Blk.drewN ?_ _) | (with_reducible refine Blk.ne ?_ ?_ _) | omega | (simp; omega))) hb
    replace hB := below_pure (w := w) (by go_grown) hb
    clear hb; replace hsz := hB.size
    clear k0_c0 k0_f0 k0_c1 k0_f1 k0_c2 k0_f2 k0_z k1_c0 k1_f0 k1_c1 k1_f1 k1_z k2_c0 k2_f0 k2_c1 k2_f1 k2_c2 k2_f2 k2_z
    have k0_c0 : c4.cell? ⟨c1.heap.size, 0, none⟩ = some (.int .i64 s) := Blk.get k0 rfl
    have k0_f0 : c4.frozen? ⟨c1.heap.size, 0, none⟩ = false := Blk.frozen k0 0
    have k0_c1 : c4.cell? ⟨c1.heap.size, 1, none⟩ = some (.int .i64 x) := Blk.get k0 rfl
    have k0_f1 : c4.frozen? ⟨c1.heap.size, 1, none⟩ = false := Blk.frozen k0 1
    have k0_c2 : c4.cell? ⟨c1.heap.size, 2, none⟩ = some (.int .i64 o) := Blk.get k0 rfl
    have k0_f2 : c4.frozen? ⟨c1.heap.size, 2, none⟩ = false := Blk.frozen k0 2
    have k0_z : c1.heap.size < c4.heap.size := Blk.lt k0
    have k1_c0 : c4.cell? ⟨c1.heap.size + 1, 0, none⟩ = some (.int .i64 dx) := Blk.get k1 rfl
    have k1_f0 : c4.frozen? ⟨c1.heap.size + 1, 0, none⟩ = false := Blk.frozen k1 0
    have k1_c1 : c4.cell? ⟨c1.heap.size + 1, 1, none⟩ = some (.int .i64 dy) := Blk.get k1 rfl
    have k1_f1 : c4.frozen? ⟨c1.heap.size + 1, 1, none⟩ = false := Blk.frozen k1 1
    have k1_z : c1.heap.size + 1 < c4.heap.size := Blk.lt k1
    have k2_c0 : c4.cell? ⟨c2.heap.size, 0, none⟩ = some (.int .i64 A) := Blk.get k2 rfl
    have k2_f0 : c4.frozen? ⟨c2.heap.size, 0, none⟩ = false := Blk.frozen k2 0
    have k2_c1 : c4.cell? ⟨c2.heap.size, 1, none⟩ = some (.int .i64 B) := Blk.get k2 rfl
    have k2_f1 : c4.frozen? ⟨c2.heap.size, 1, none⟩ = false := Blk.frozen k2 1
    have k2_c2 : c4.cell? ⟨c2.heap.size, 2, none⟩ = some (.int .i64 C) := Blk.get k2 rfl
    have k2_f2 : c4.frozen? ⟨c2.heap.size, 2, none⟩ = false := Blk.frozen k2 2
    have k2_z : c2.heap.size < c4.heap.size := Blk.lt k2
    have k3_c0 : c4.cell? ⟨c3.heap.size, 0, none⟩ = some (.int .i64 A) := Blk.get k3 rfl
    have k3_f0 : c4.frozen? ⟨c3.heap.size, 0, none⟩ = false := Blk.frozen k3 0
    have k3_c1 : c4.cell? ⟨c3.heap.size, 1, none⟩ = some (.int .i64 B) := Blk.get k3 rfl
    have k3_f1 : c4.frozen? ⟨c3.heap.size, 1, none⟩ = false := Blk.frozen k3 1
    have k3_c2 : c4.cell? ⟨c3.heap.size, 2, none⟩ = some (.int .i64 C) := Blk.get k3 rfl
    have k3_f2 : c4.frozen? ⟨c3.heap.size, 2, none⟩ = false := Blk.frozen k3 2
    have k3_z : c3.heap.size < c4.heap.size := Blk.lt k3
    go_wp2_with fail
    go_call (alive_any _) as e c5 ⟨rfl, hb⟩
    replace k0 : Blk c5 (c1.heap.size) 27 #[.int .i64 s, .int .i64 x, .int .i64 o] := Blk.pure (by repeat' (first | (with_reducible assumption) | (with_reducible exact Blk.new _ _ _) | (with_reducible exact Blk.new' (by simp)) | (with_reducible refine Blk.alloc ?_ _) | (with_reducible refine Blk.drew ?_) | (with_reducible refine Blk.drewN ?_ _) | (with_reducible refine Blk.ne ?_ ?_ _) | omega | (simp; omega))) hb
    replace k1 : Blk c5 (c1.heap.size + 1) 57 #[.int .i64 dx, .int .i64 dy] := Blk.pure (by repeat' (first | (with_reducible assumption) | (with_reducible exact Blk.new _ _ _) | (with_reducible exact Blk.new' (by simp)) | (with_reducible refine Blk.alloc ?_ _) | (with_reducible refine Blk.drew ?_) | (with_reducible refine Blk.drewN ?_ _) | (with_reducible refine Blk.ne ?_ ?_ _) | omega | (simp; omega))) hb
    replace k2 : Blk c5 (c2.heap.size) 27 #[.int .i64 A, .int .i64 B, .int .i64 C] := Blk.pure (by repeat' (first | (with_reducible assumption) | (with_reducible exact Blk.new _ _ _) | (with_reducible exact Blk.new' (by simp)) | (with_reducible refine Blk.alloc ?_ _) | (with_reducible refine Blk.drew ?_) | (with_reducible refine Blk.drewN ?_ _) | (with_reducible refine Blk.ne ?_ ?_ _) | omega | (simp; omega))) hb
    replace k3 : Blk c5 (c3.heap.size) 27 #[.int .i64 A, .int .i64 B, .int .i64 C] := Blk.pure (by repeat' (first | (with_reducible assumption) | (with_reducible exact Blk.new _ _ _) | (with_reducible exact Blk.new' (by simp)) | (with_reducible refine Blk.alloc ?_ _) | (with_reducible refine Blk.drew ?_) | (with_reducible refine Blk.drewN ?_ _) | (with_reducible refine Blk.ne ?_ ?_ _) | omega | (simp; omega))) hb
    have k4 : Blk c5 (c4.heap.size) 27 #[.int .i64 0, .int .i64 0, .int .i64 0] := Blk.pure (by repeat' (first | (with_reducible assumption) | (with_reducible exact Blk.new _ _ _) | (with_reducible exact Blk.new' (by simp)) | (with_reducible refine Blk.alloc ?_ _) | (with_reducible refine Blk.drew ?_) | (with_reducible refine Blk.drewN ?_ _) | (with_reducible refine Blk.ne ?_ ?_ _) | omega | (simp; omega))) hb
    replace hB := below_pure (w := w) (by go_grown) hb
    clear hb; replace hsz := hB.size
    clear k0_c0 k0_f0 k0_c1 k0_f1 k0_c2 k0_f2 k0_z k1_c0 k1_f0 k1_c1 k1_f1 k1_z k2_c0 k2_f0 k2_c1 k2_f1 k2_c2 k2_f2 k2_z k3_c0 k3_f0 k3_c1 k3_f1 k3_c2 k3_f2 k3_z
    have k0_c0 : c5.cell? ⟨c1.heap.size, 0, none⟩ = some (.int .i64 s) := Blk.get k0 rfl
    have k0_f0 : c5.frozen? ⟨c1.heap.size, 0, none⟩ = false := Blk.frozen k0 0
    have k0_c1 : c5.cell? ⟨c1.heap.size, 1, none⟩ = some (.int .i64 x) := Blk.get k0 rfl
    have k0_f1 : c5.frozen? ⟨c1.heap.size, 1, none⟩ = false := Blk.frozen k0 1
    have k0_c2 : c5.cell? ⟨c1.heap.size, 2, none⟩ = some (.int .i64 o) := Blk.get k0 rfl
    have k0_f2 : c5.frozen? ⟨c1.heap.size, 2, none⟩ = false := Blk.frozen k0 2
    have k0_z : c1.heap.size < c5.heap.size := Blk.lt k0
    have k1_c0 : c5.cell? ⟨c1.heap.size + 1, 0, none⟩ = some (.int .i64 dx) := Blk.get k1 rfl
    have k1_f0 : c5.frozen? ⟨c1.heap.size + 1, 0, none⟩ = false := Blk.frozen k1 0
    have k1_c1 : c5.cell? ⟨c1.heap.size + 1, 1, none⟩ = some (.int .i64 dy) := Blk.get k1 rfl
    have k1_f1 : c5.frozen? ⟨c1.heap.size + 1, 1, none⟩ = false := Blk.frozen k1 1
    have k1_z : c1.heap.size + 1 < c5.heap.size := Blk.lt k1
    have k2_c0 : c5.cell? ⟨c2.heap.size, 0, none⟩ = some (.int .i64 A) := Blk.get k2 rfl
    have k2_f0 : c5.frozen? ⟨c2.heap.size, 0, none⟩ = false := Blk.frozen k2 0
    have k2_c1 : c5.cell? ⟨c2.heap.size, 1, none⟩ = some (.int .i64 B) := Blk.get k2 rfl
    have k2_f1 : c5.frozen? ⟨c2.heap.size, 1, none⟩ = false := Blk.frozen k2 1
    have k2_c2 : c5.cell? ⟨c2.heap.size, 2, none⟩ = some (.int .i64 C) := Blk.get k2 rfl
    have k2_f2 : c5.frozen? ⟨c2.heap.size, 2, none⟩ = false := Blk.frozen k2 2
    have k2_z : c2.heap.size < c5.heap.size := Blk.lt k2
    have k3_c0 : c5.cell? ⟨c3.heap.size, 0, none⟩ = some (.int .i64 A) := Blk.get k3 rfl
    have k3_f0 : c5.frozen? ⟨c3.heap.size, 0, none⟩ = false := Blk.frozen k3 0
    have k3_c1 : c5.cell? ⟨c3.heap.size, 1, none⟩ = some (.int .i64 B) := Blk.get k3 rfl
    have k3_f1 : c5.frozen? ⟨c3.heap.size, 1, none⟩ = false := Blk.frozen k3 1
    have k3_c2 : c5.cell? ⟨c3.heap.size, 2, none⟩ = some (.int .i64 C) := Blk.get k3 rfl
    have k3_f2 : c5.frozen? ⟨c3.heap.size, 2, none⟩ = false := Blk.frozen k3 2
    have k3_z : c3.heap.size < c5.heap.size := Blk.lt k3
    have k4_c0 : c5.cell? ⟨c4.heap.size, 0, none⟩ = some (.int .i64 0) := Blk.get k4 rfl
    have k4_f0 : c5.frozen? ⟨c4.heap.size, 0, none⟩ = false := Blk.frozen k4 0
    have k4_c1 : c5.cell? ⟨c4.heap.size, 1, none⟩ = some (.int .i64 0) := Blk.get k4 rfl
    have k4_f1 : c5.frozen? ⟨c4.heap.size, 1, none⟩ = false := Blk.frozen k4 1
    have k4_c2 : c5.cell? ⟨c4.heap.size, 2, none⟩ = some (.int .i64 0) := Blk.get k4 rfl
    have k4_f2 : c5.frozen? ⟨c4.heap.size, 2, none⟩ = false := Blk.frozen k4 2
    have k4_z : c4.heap.size < c5.heap.size := Blk.lt k4
    go_wp2
    go_ret
    exact ⟨rfl, by go_grown⟩
  · obtain ⟨i1, i2, i3⟩ := addB_t hf
    obtain ⟨j0, j1, j2, j3⟩ := pwB_t i3
    have q := pitchB_t i1
    have i4 : pitchB s x (o + 1) = true := by
      rw [placeV_t i1, keyV_t i1] at j1
      rw [show (7 * o + s + 7) % 7 = s by omega, show (7 * o + s + 7) / 7 = o + 1 by omega, show 7 * o + s + 7 = 7 * (o + 1) + s by omega, natu_of s (o + 1) (by omega) (by omega), show 12 * o + half s + x + 12 - (12 * (o + 1) + half s) = x by omega] at j1
      exact j1
    have HU := Lib.hid (fun W => addC (x := 7) (y := 12) i1 i2 i4 (by rw [placeV_t i1, placeV_t i4]; omega) (by rw [keyV_t i1, keyV_t i4]; omega) W)
    obtain ⟨r, hr, r0, r1⟩ : ∃ r : Int, (len : Int).tmod 15 = r ∧ 0 ≤ r ∧ r < 15 := by
      refine ⟨_, rfl, ?_⟩
      rw [Int.tmod_eq_emod_of_nonneg (by omega)]
      omega
    have hfr : inR (r - 7) (-7) 7 = true := by unfold inR; exact decide_eq_true ⟨by omega, by omega⟩
    have ek : inKeyB (r - 7) s x (o + 1) = inKeyB (r - 7) s x o := by rw [inKey_valid hfr i1, inKey_valid hfr i4]
    obtain ⟨q0, q1, q2, q3, q4, q5⟩ := q
    have HR := Lib.hid hr
    clear hbd i3 j0 j1 j2 j3 hr
    cases hb : inKeyB (r - 7) s x o
    all_goals
      rw [hb] at ek
      have HI : ∀ o' : Int, (o ≤ o' ∧ o' ≤ o + 1) → ∀ W, Calls Try.prog 21 #[.int .i64 (r - 7), .agg #[.int .i64 s, .int .i64 x, .int .i64 o']] W (Gives (.bool (inKeyB (r - 7) s x o)) W) := fun o' ho W => by
        obtain rfl | rfl : o' = o ∨ o' = o + 1 := by omega
        · exact inKey_any _ _ _ _ W
        · have h := inKey_any (r - 7) s x (o + 1) W
          rw [ek, ← hb] at h
          exact h
      rw [hb] at HI
      replace HI := Lib.hid HI
      clear ek hb hf
      go_wp2_with fail
      go_call (HA.out _) as e c2 ⟨rfl, hb⟩
      have k0 : Blk c2 (c1.heap.size) 27 #[.int .i64 s, .int .i64 x, .int .i64 o] := Blk.pure (by repeat' (first | (with_reducible assumption) | (with_reducible exact Blk.new _ _ _) | (with_reducible exact Blk.new' (by simp)) | (with_reducible refine Blk.alloc ?_ _) | (with_reducible refine Blk.drew ?_) | (with_reducible refine Blk.drewN ?_ _) | (with_reducible refine Blk.ne ?_ ?_ _) | omega | (simp; omega))) hb
      have k1 : Blk c2 (c1.heap.size + 1) 57 #[.int .i64 dx, .int .i64 dy] := Blk.pure (by repeat' (first | (with_reducible assumption) | (with_reducible exact Blk.new _ _ _) | (with_reducible exact Blk.new' (by simp)) | (with_reducible refine Blk.alloc ?_ _) | (with_reducible refine Blk.drew ?_) | (with_reducible refine Blk.drewN ?_ _) | (with_reducible refine Blk.ne ?_ ?_ _) | omega | (simp; omega))) hb
      replace hB := below_pure (w := w) (by go_grown) hb
      clear hb; replace hsz := hB.size
      have k0_c0 : c2.cell? ⟨c1.heap.size, 0, none⟩ = some (.int .i64 s) := Blk.get k0 rfl
      have k0_f0 : c2.frozen? ⟨c1.heap.size, 0, none⟩ = false := Blk.frozen k0 0
      have k0_c1 : c2.cell? ⟨c1.heap.size, 1, none⟩ = some (.int .i64 x) := Blk.get k0 rfl
      have k0_f1 : c2.frozen? ⟨c1.heap.size, 1, none⟩ = false := Blk.frozen k0 1
      have k0_c2 : c2.cell? ⟨c1.heap.size, 2, none⟩ = some (.int .i64 o) := Blk.get k0 rfl
      have k0_f2 : c2.frozen? ⟨c1.heap.size, 2, none⟩ = false := Blk.frozen k0 2
      have k0_z : c1.heap.size < c2.heap.size := Blk.lt k0
      have k1_c0 : c2.cell? ⟨c1.heap.size + 1, 0, none⟩ = some (.int .i64 dx) := Blk.get k1 rfl
      have k1_f0 : c2.frozen? ⟨c1.heap.size + 1, 0, none⟩ = false := Blk.frozen k1 0
      have k1_c1 : c2.cell? ⟨c1.heap.size + 1, 1, none⟩ = some (.int .i64 dy) := Blk.get k1 rfl
      have k1_f1 : c2.frozen? ⟨c1.heap.size + 1, 1, none⟩ = false := Blk.frozen k1 1
      have k1_z : c1.heap.size + 1 < c2.heap.size := Blk.lt k1
      go_wp2_with fail
      go_call (HS.out _) as e c3 ⟨rfl, hb⟩
      replace k0 : Blk c3 (c1.heap.size) 27 #[.int .i64 s, .int .i64 x, .int .i64 o] := Blk.pure (by repeat' (first | (with_reducible assumption) | (with_reducible exact Blk.new _ _ _) | (with_reducible exact Blk.new' (by simp)) | (with_reducible refine Blk.alloc ?_ _) | (with_reducible refine Blk.drew ?_) | (with_reducible refine Blk.drewN ?_ _) | (with_reducible refine Blk.ne ?_ ?_ _) | omega | (simp; omega))) hb
      replace k1 : Blk c3 (c1.heap.size + 1) 57 #[.int .i64 dx, .int .i64 dy] := Blk.pure (by repeat' (first | (with_reducible assumption) | (with_reducible exact Blk.new _ _ _) | (with_reducible exact Blk.new' (by simp)) | (with_reducible refine Blk.alloc ?_ _) | (with_reducible refine Blk.drew ?_) | (with_reducible refine Blk.drewN ?_ _) | (with_reducible refine Blk.ne ?_ ?_ _) | omega | (simp; omega))) hb
      have k2 : Blk c3 (c2.heap.size) 27 #[.int .i64 A, .int .i64 B, .int .i64 C] := Blk.pure (by repeat' (first | (with_reducible assumption) | (with_reducible exact Blk.new _ _ _) | (with_reducible exact Blk.new' (by simp)) | (with_reducible refine Blk.alloc ?_ _) | (with_reducible refine Blk.drew ?_) | (with_reducible refine Blk.drewN ?_ _) | (with_reducible refine Blk.ne ?_ ?_ _) | omega | (simp; omega))) hb
      replace hB := below_pure (w := w) (by go_grown) hb
      clear hb; replace hsz := hB.size
      clear k0_c0 k0_f0 k0_c1 k0_f1 k0_c2 k0_f2 k0_z k1_c0 k1_f0 k1_c1 k1_f1 k1_z
      have k0_c0 : c3.cell? ⟨c1.heap.size, 0, none⟩ = some (.int .i64 s) := Blk.get k0 rfl
      have k0_f0 : c3.frozen? ⟨c1.heap.size, 0, none⟩ = false := Blk.frozen k0 0
      have k0_c1 : c3.cell? ⟨c1.heap.size, 1, none⟩ = some (.int .i64 x) := Blk.get k0 rfl
      have k0_f1 : c3.frozen? ⟨c1.heap.size, 1, none⟩ = false := Blk.frozen k0 1
      have k0_c2 : c3.cell? ⟨c1.heap.size, 2, none⟩ = some (.int .i64 o) := Blk.get k0 rfl
      have k0_f2 : c3.frozen? ⟨c1.heap.size, 2, none⟩ = false := Blk.frozen k0 2
      have k0_z : c1.heap.size < c3.heap.size := Blk.lt k0
      have k1_c0 : c3.cell? ⟨c1.heap.size + 1, 0, none⟩ = some (.int .i64 dx) := Blk.get k1 rfl
      have k1_f0 : c3.frozen? ⟨c1.heap.size + 1, 0, none⟩ = false := Blk.frozen k1 0
      have k1_c1 : c3.cell? ⟨c1.heap.size + 1, 1, none⟩ = some (.int .i64 dy) := Blk.get k1 rfl
      have k1_f1 : c3.frozen? ⟨c1.heap.size + 1, 1, none⟩ = false := Blk.frozen k1 1
      have k1_z : c1.heap.size + 1 < c3.heap.size := Blk.lt k1
      have k2_c0 : c3.cell? ⟨c2.heap.size, 0, none⟩ = some (.int .i64 A) := Blk.get k2 rfl
      have k2_f0 : c3.frozen? ⟨c2.heap.size, 0, none⟩ = false := Blk.frozen k2 0
      have k2_c1 : c3.cell? ⟨c2.heap.size, 1, none⟩ = some (.int .i64 B) := Blk.get k2 rfl
      have k2_f1 : c3.frozen? ⟨c2.heap.size, 1, none⟩ = false := Blk.frozen k2 1
      have k2_c2 : c3.cell? ⟨c2.heap.size, 2, none⟩ = some (.int .i64 C) := Blk.get k2 rfl
      have k2_f2 : c3.frozen? ⟨c2.heap.size, 2, none⟩ = false := Blk.frozen k2 2
      have k2_z : c2.heap.size < c3.heap.size := Blk.lt k2
      go_wp2_with fail
      go_call (HU.out _) as e c4 ⟨rfl, hb⟩
      replace k0 : Blk c4 (c1.heap.size) 27 #[.int .i64 s, .int .i64 x, .int .i64 o] := Blk.pure (by repeat' (first | (with_reducible assumption) | (with_reducible exact Blk.new _ _ _) | (with_reducible exact Blk.new' (by simp)) | (with_reducible refine Blk.alloc ?_ _) | (with_reducible refine Blk.drew ?_) | (with_reducible refine Blk.drewN ?_ _) | (with_reducible refine Blk.ne ?_ ?_ _) | omega | (simp; omega))) hb
      replace k1 : Blk c4 (c1.heap.size + 1) 57 #[.int .i64 dx, .int .i64 dy] := Blk.pure (by repeat' (first | (with_reducible assumption) | (with_reducible exact Blk.new _ _ _) | (with_reducible exact Blk.new' (by simp)) | (with_reducible refine Blk.alloc ?_ _) | (with_reducible refine Blk.drew ?_) | (with_reducible refine Blk.drewN ?_ _) | (with_reducible refine Blk.ne ?_ ?_ _) | omega | (simp; omega))) hb
      replace k2 : Blk c4 (c2.heap.size) 27 #[.int .i64 A, .int .i64 B, .int .i64 C] := Blk.pure (by repeat' (first | (with_reducible assumption) | (with_reducible exact Blk.new _ _ _) | (with_reducible exact Blk.new' (by simp)) | (with_reducible refine Blk.alloc ?_ _) | (with_reducible refine Blk.drew ?_) | (with_reducible refine Blk.drewN ?_ _) | (with_reducible refine Blk.ne ?_ ?_ _) | omega | (simp; omega))) hb
      have k3 : Blk c4 (c3.heap.size) 27 #[.int .i64 A, .int .i64 B, .int .i64 C] := Blk.pure (by repeat' (first | (with_reducible assumption) | (with_reducible exact Blk.new _ _ _) | (with_reducible exact Blk.new' (by simp)) | (with_reducible refine Blk.alloc ?_ _) | (with_reducible refine Blk.drew ?_) | (with_reducible refine Blk.drewN ?_ _) | (with_reducible refine Blk.ne ?_ ?_ _) | omega | (simp; omega))) hb
      replace hB := below_pure (w := w) (by go_grown) hb
      clear hb; replace hsz := hB.size
      clear k0_c0 k0_f0 k0_c1 k0_f1 k0_c2 k0_f2 k0_z k1_c0 k1_f0 k1_c1 k1_f1 k1_z k2_c0 k2_f0 k2_c1 k2_f1 k2_c2 k2_f2 k2_z
      have k0_c0 : c4.cell? ⟨c1.heap.size, 0, none⟩ = some (.int .i64 s) := Blk.get k0 rfl
      have k0_f0 : c4.frozen? ⟨c1.heap.size, 0, none⟩ = false := Blk.frozen k0 0
      have k0_c1 : c4.cell? ⟨c1.heap.size, 1, none⟩ = some (.int .i64 x) := Blk.get k0 rfl
      have k0_f1 : c4.frozen? ⟨c1.heap.size, 1, none⟩ = false := Blk.frozen k0 1
      have k0_c2 : c4.cell? ⟨c1.heap.size, 2, none⟩ = some (.int .i64 o) := Blk.get k0 rfl
      have k0_f2 : c4.frozen? ⟨c1.heap.size, 2, none⟩ = false := Blk.frozen k0 2
      have k0_z : c1.heap.size < c4.heap.size := Blk.lt k0
      have k1_c0 : c4.cell? ⟨c1.heap.size + 1, 0, none⟩ = some (.int .i64 dx) := Blk.get k1 rfl
      have k1_f0 : c4.frozen? ⟨c1.heap.size + 1, 0, none⟩ = false := Blk.frozen k1 0
      have k1_c1 : c4.cell? ⟨c1.heap.size + 1, 1, none⟩ = some (.int .i64 dy) := Blk.get k1 rfl
      have k1_f1 : c4.frozen? ⟨c1.heap.size + 1, 1, none⟩ = false := Blk.frozen k1 1
      have k1_z : c1.heap.size + 1 < c4.heap.size := Blk.lt k1
      have k2_c0 : c4.cell? ⟨c2.heap.size, 0, none⟩ = some (.int .i64 A) := Blk.get k2 rfl
      have k2_f0 : c4.frozen? ⟨c2.heap.size, 0, none⟩ = false := Blk.frozen k2 0
      have k2_c1 : c4.cell? ⟨c2.heap.size, 1, none⟩ = some (.int .i64 B) := Blk.get k2 rfl
      have k2_f1 : c4.frozen? ⟨c2.heap.size, 1, none⟩ = false := Blk.frozen k2 1
      have k2_c2 : c4.cell? ⟨c2.heap.size, 2, none⟩ = some (.int .i64 C) := Blk.get k2 rfl
      have k2_f2 : c4.frozen? ⟨c2.heap.size, 2, none⟩ = false := Blk.frozen k2 2
      have k2_z : c2.heap.size < c4.heap.size := Blk.lt k2
      have k3_c0 : c4.cell? ⟨c3.heap.size, 0, none⟩ = some (.int .i64 A) := Blk.get k3 rfl
      have k3_f0 : c4.frozen? ⟨c3.heap.size, 0, none⟩ = false := Blk.frozen k3 0
      have k3_c1 : c4.cell? ⟨c3.heap.size, 1, none⟩ = some (.int .i64 B) := Blk.get k3 rfl
      have k3_f1 : c4.frozen? ⟨c3.heap.size, 1, none⟩ = false := Blk.frozen k3 1
      have k3_c2 : c4.cell? ⟨c3.heap.size, 2, none⟩ = some (.int .i64 C) := Blk.get k3 rfl
      have k3_f2 : c4.frozen? ⟨c3.heap.size, 2, none⟩ = false := Blk.frozen k3 2
      have k3_z : c3.heap.size < c4.heap.size := Blk.lt k3
      go_upto_region 11 with fail
      have ordk0 := k0_z
      have ordk1 := k1_z
      have ordk2 := k2_z
      have ordk3 := k3_z
      replace k0 : Blk (c4.alloc (Obj.cells #[.int .i64 s, .int .i64 x, .int .i64 (o + 1)] 27)) (c1.heap.size) 27 #[.int .i64 s, .int .i64 x, .int .i64 o] := Blk.alloc k0 _
      replace k1 : Blk (c4.alloc (Obj.cells #[.int .i64 s, .int .i64 x, .int .i64 (o + 1)] 27)) (c1.heap.size + 1) 57 #[.int .i64 dx, .int .i64 dy] := Blk.alloc k1 _
      replace k2 : Blk (c4.alloc (Obj.cells #[.int .i64 s, .int .i64 x, .int .i64 (o + 1)] 27)) (c2.heap.size) 27 #[.int .i64 A, .int .i64 B, .int .i64 C] := Blk.alloc k2 _
      replace k3 : Blk (c4.alloc (Obj.cells #[.int .i64 s, .int .i64 x, .int .i64 (o + 1)] 27)) (c3.heap.size) 27 #[.int .i64 A, .int .i64 B, .int .i64 C] := Blk.alloc k3 _
      have k4 : Blk (c4.alloc (Obj.cells #[.int .i64 s, .int .i64 x, .int .i64 (o + 1)] 27)) (c4.heap.size) 27 #[.int .i64 s, .int .i64 x, .int .i64 (o + 1)] := Blk.new _ _ _
      replace hB : Below w.heap.size w (c4.alloc (Obj.cells #[.int .i64 s, .int .i64 x, .int .i64 (o + 1)] 27)) := by go_grown
      generalize (c4.alloc (Obj.cells #[.int .i64 s, .int .i64 x, .int .i64 (o + 1)] 27)) = cx5 at *
      clear k0_c0 k0_f0 k0_c1 k0_f1 k0_c2 k0_f2 k0_z k1_c0 k1_f0 k1_c1 k1_f1 k1_z k2_c0 k2_f0 k2_c1 k2_f1 k2_c2 k2_f2 k2_z k3_c0 k3_f0 k3_c1 k3_f1 k3_c2 k3_f2 k3_z
      have k0_c0 : cx5.cell? ⟨c1.heap.size, 0, none⟩ = some (.int .i64 s) := Blk.get k0 rfl
      have k0_f0 : cx5.frozen? ⟨c1.heap.size, 0, none⟩ = false := Blk.frozen k0 0
      have k0_c1 : cx5.cell? ⟨c1.heap.size, 1, none⟩ = some (.int .i64 x) := Blk.get k0 rfl
      have k0_f1 : cx5.frozen? ⟨c1.heap.size, 1, none⟩ = false := Blk.frozen k0 1
      have k0_c2 : cx5.cell? ⟨c1.heap.size, 2, none⟩ = some (.int .i64 o) := Blk.get k0 rfl
      have k0_f2 : cx5.frozen? ⟨c1.heap.size, 2, none⟩ = false := Blk.frozen k0 2
      have k0_z : c1.heap.size < cx5.heap.size := Blk.lt k0
      have k1_c0 : cx5.cell? ⟨c1.heap.size + 1, 0, none⟩ = some (.int .i64 dx) := Blk.get k1 rfl
      have k1_f0 : cx5.frozen? ⟨c1.heap.size + 1, 0, none⟩ = false := Blk.frozen k1 0
      have k1_c1 : cx5.cell? ⟨c1.heap.size + 1, 1, none⟩ = some (.int .i64 dy) := Blk.get k1 rfl
      have k1_f1 : cx5.frozen? ⟨c1.heap.size + 1, 1, none⟩ = false := Blk.frozen k1 1
      have k1_z : c1.heap.size + 1 < cx5.heap.size := Blk.lt k1
      have k2_c0 : cx5.cell? ⟨c2.heap.size, 0, none⟩ = some (.int .i64 A) := Blk.get k2 rfl
      have k2_f0 : cx5.frozen? ⟨c2.heap.size, 0, none⟩ = false := Blk.frozen k2 0
      have k2_c1 : cx5.cell? ⟨c2.heap.size, 1, none⟩ = some (.int .i64 B) := Blk.get k2 rfl
      have k2_f1 : cx5.frozen? ⟨c2.heap.size, 1, none⟩ = false := Blk.frozen k2 1
      have k2_c2 : cx5.cell? ⟨c2.heap.size, 2, none⟩ = some (.int .i64 C) := Blk.get k2 rfl
      have k2_f2 : cx5.frozen? ⟨c2.heap.size, 2, none⟩ = false := Blk.frozen k2 2
      have k2_z : c2.heap.size < cx5.heap.size := Blk.lt k2
      have k3_c0 : cx5.cell? ⟨c3.heap.size, 0, none⟩ = some (.int .i64 A) := Blk.get k3 rfl
      have k3_f0 : cx5.frozen? ⟨c3.heap.size, 0, none⟩ = false := Blk.frozen k3 0
      have k3_c1 : cx5.cell? ⟨c3.heap.size, 1, none⟩ = some (.int .i64 B) := Blk.get k3 rfl
      have k3_f1 : cx5.frozen? ⟨c3.heap.size, 1, none⟩ = false := Blk.frozen k3 1
      have k3_c2 : cx5.cell? ⟨c3.heap.size, 2, none⟩ = some (.int .i64 C) := Blk.get k3 rfl
      have k3_f2 : cx5.frozen? ⟨c3.heap.size, 2, none⟩ = false := Blk.frozen k3 2
      have k3_z : c3.heap.size < cx5.heap.size := Blk.lt k3
      have k4_c0 : cx5.cell? ⟨c4.heap.size, 0, none⟩ = some (.int .i64 s) := Blk.get k4 rfl
      have k4_f0 : cx5.frozen? ⟨c4.heap.size, 0, none⟩ = false := Blk.frozen k4 0
      have k4_c1 : cx5.cell? ⟨c4.heap.size, 1, none⟩ = some (.int .i64 x) := Blk.get k4 rfl
      have k4_f1 : cx5.frozen? ⟨c4.heap.size, 1, none⟩ = false := Blk.frozen k4 1
      have k4_c2 : cx5.cell? ⟨c4.heap.size, 2, none⟩ = some (.int .i64 (o + 1)) := Blk.get k4 rfl
      have k4_f2 : cx5.frozen? ⟨c4.heap.size, 2, none⟩ = false := Blk.frozen k4 2
      have k4_z : c4.heap.size < cx5.heap.size := Blk.lt k4
      have hr := HR.out
      have hw1 : IntKind.i64.wrap (r - 7) = r - 7 := IntWalk.i64_in _ (by omega)
      have hw2 : IntKind.i64.wrap (o + 1) = o + 1 := IntWalk.i64_in _ (by omega)
      have HSd := Lib.hid (show Blk cx5.drew (c1.heap.size) 27 #[.int .i64 s, .int .i64 x, .int .i64 o] ∧ cx5.drew.cell? ⟨c1.heap.size, 0, none⟩ = some (.int .i64 s) ∧ cx5.drew.cell? ⟨c1.heap.size, 1, none⟩ = some (.int .i64 x) ∧ cx5.drew.cell? ⟨c1.heap.size, 2, none⟩ = some (.int .i64 o) ∧ Blk cx5.drew (c1.heap.size + 1) 57 #[.int .i64 dx, .int .i64 dy] ∧ Blk cx5.drew (c2.heap.size) 27 #[.int .i64 A, .int .i64 B, .int .i64 C] ∧ Blk cx5.drew (c3.heap.size) 27 #[.int .i64 A, .int .i64 B, .int .i64 C] ∧ Blk cx5.drew (c4.heap.size) 27 #[.int .i64 s, .int .i64 x, .int .i64 (o + 1)] ∧ cx5.drew.cell? ⟨c4.heap.size, 0, none⟩ = some (.int .i64 s) ∧ cx5.drew.cell? ⟨c4.heap.size, 1, none⟩ = some (.int .i64 x) ∧ cx5.drew.cell? ⟨c4.heap.size, 2, none⟩ = some (.int .i64 (o + 1)) ∧ Below w.heap.size w cx5.drew from ⟨k0, k0_c0, k0_c1, k0_c2, k1, k2, k3, k4, k4_c0, k4_c1, k4_c2, hB.drew⟩)
      have hz : c4.heap.size < cx5.heap.size := k4_z
      clear hB k0_c0 k0_f0 k0_c1 k0_f1 k0_c2 k0_f2 k0_z k1_c0 k1_f0 k1_c1 k1_f1 k1_z k2_c0 k2_f0 k2_c1 k2_f1 k2_c2 k2_f2 k2_z k3_c0 k3_f0 k3_c1 k3_f1 k3_c2 k3_f2 k3_z k4_c0 k4_f0 k4_c1 k4_f1 k4_c2 k4_f2 k4_z k0 k1 k2 k3 k4
      go_region_held3 (fun w' => Blk w' (c1.heap.size) 27 #[.int .i64 s, .int .i64 x, .int .i64 o] ∧ w'.cell? ⟨c1.heap.size, 0, none⟩ = some (.int .i64 s) ∧ w'.cell? ⟨c1.heap.size, 1, none⟩ = some (.int .i64 x) ∧ w'.cell? ⟨c1.heap.size, 2, none⟩ = some (.int .i64 o) ∧ Blk w' (c1.heap.size + 1) 57 #[.int .i64 dx, .int .i64 dy] ∧ Blk w' (c2.heap.size) 27 #[.int .i64 A, .int .i64 B, .int .i64 C] ∧ Blk w' (c3.heap.size) 27 #[.int .i64 A, .int .i64 B, .int .i64 C] ∧ Blk w' (c4.heap.size) 27 #[.int .i64 s, .int .i64 x, .int .i64 (o + 1)] ∧ w'.cell? ⟨c4.heap.size, 0, none⟩ = some (.int .i64 s) ∧ w'.cell? ⟨c4.heap.size, 1, none⟩ = some (.int .i64 x) ∧ w'.cell? ⟨c4.heap.size, 2, none⟩ = some (.int .i64 (o + 1)) ∧ Below w.heap.size w w')
        (first | exact HSd.out | (go_split_ands; go_split_ands; (repeat' apply And.intro) <;> first | (with_reducible assumption) | (with_reducible exact Blk.pure (by assumption) hbc) | (with_reducible exact Blk.get (Blk.pure (by assumption) hbc) rfl) | (with_reducible exact below_pure (by assumption) hbc) | (with_reducible exact Blk.alloc (by assumption) _) | (with_reducible exact Blk.get (Blk.alloc (by assumption) _) rfl) | (with_reducible exact Below.alloc (by assumption) (Below.size (by assumption)) _) | (with_reducible exact Blk.drew (Blk.alloc (Blk.undrew (by assumption)) _)) | (with_reducible exact Blk.get (Blk.drew (Blk.alloc (Blk.undrew (by assumption)) _)) rfl) | (with_reducible exact Below.drew (Below.alloc (below_undrew (by assumption)) (Below.size (below_undrew (by assumption))) _)) | (with_reducible exact Blk.swap (by assumption) (by omega)) | (with_reducible exact Blk.get (Blk.swap (by assumption) (by omega)) rfl) | (with_reducible exact below_swap (by assumption) (by omega))))
        (first | ((go_at_call 21; refine (HI.out _ (by omega) _).mono ?_; rintro e w2 ⟨rfl, hbc⟩); have hz : c4.heap.size < w2.heap.size := (by (go_split_ands; refine Nat.lt_of_lt_of_le ?_ hbc.size; exact Blk.lt (by assumption)))))
      all_goals
        clear HSd
        go_split_ands
        go_wp2
        go_ret
        exact ⟨rfl, by assumption⟩
end Go.Proofs.Ytojkbeffhjcaiaa

/- The walk of the law FnInKey: it returns true, and nothing that was there turns. No condition. -/
import Derived.Test.YtojkbeffhjcaiaaDk
import Derived.Test.YtojkbeffhjcaiaaAl
import Derived.Test.YtojkbeffhjcaiaaKm
namespace Go.Proofs.Ytojkbeffhjcaiaa
open Go.RowKit

set_option maxHeartbeats 2000000 in
set_option maxRecDepth 100000 in
theorem fnInKey_walk (a : Option Addr) (len cap : Nat) (w : World) (hC : Code' w a len cap) :
    Calls Try.prog 10 #[.slice a len cap] w (Gives (.bool true) w) := by
  by_cases hlen : 1048576 < len
  · have hcap : len ≤ 9223372036854775807 := by have h1 := hC.2.1; have h2 := hC.2.2; unfold maxLen at h2; omega
    go_enter Try.func10, Try.ntmps10
    go_wp2
    go_ret
    exact ⟨rfl, by go_grown⟩
  have hlen' : len ≤ 1048576 := by omega
  have HC := Lib.hid hC
  clear hC
  go_enter Try.func10, Try.ntmps10
  go_wp2_with fail
  refine (drawInKey_any _ _ _ _ HC.out hlen').mono ?_
  rintro e c1 ⟨f, s, x, o, rfl, ⟨f0, f1, bs0, bs1, bx0, bx1, bo0, bo1⟩, hb⟩
  have hB : Below w.heap.size w c1 := by have h := below_pure (w := w) (by go_grown) hb; exact h
  have hsz := hB.size
  clear hb HC
  cases hv : pitchB s x o
  · have e1 := inKey_v (f := f) hv
    go_wp2_with fail
    go_call (inKey_any _ _ _ _ _) as e c2 ⟨rfl, hb⟩
    have k0 : Blk c2 (c1.heap.size) 27 #[.int .i64 s, .int .i64 x, .int .i64 o] := Blk.pure (by repeat' (first | (with_reducible assumption) | (with_reducible exact Blk.new _ _ _) | (with_reducible exact Blk.new' (by simp)) | (with_reducible refine Blk.alloc ?_ _) | (with_reducible refine Blk.drew ?_) | (with_reducible refine Blk.drewN ?_ _) | (with_reducible refine Blk.ne ?_ ?_ _) | omega | (simp; omega))) hb
    replace hB := below_pure (w := w) (by go_grown) hb
    clear hb; replace hsz := hB.size
    have k0_c0 : c2.cell? ⟨c1.heap.size, 0, none⟩ = some (.int .i64 s) := Blk.get k0 rfl
    have k0_f0 : c2.frozen? ⟨c1.heap.size, 0, none⟩ = false := Blk.frozen k0 0
    have k0_c1 : c2.cell? ⟨c1.heap.size, 1, none⟩ = some (.int .i64 x) := Blk.get k0 rfl
    have k0_f1 : c2.frozen? ⟨c1.heap.size, 1, none⟩ = false := Blk.frozen k0 1
    have k0_c2 : c2.cell? ⟨c1.heap.size, 2, none⟩ = some (.int .i64 o) := Blk.get k0 rfl
    have k0_f2 : c2.frozen? ⟨c1.heap.size, 2, none⟩ = false := Blk.frozen k0 2
    have k0_z : c1.heap.size < c2.heap.size := Blk.lt k0
    go_wp2_with fail
    go_call (specInKey_any _ _ _ _ _) as e c3 ⟨rfl, hb⟩
    replace k0 : Blk c3 (c1.heap.size) 27 #[.int .i64 s, .int .i64 x, .int .i64 o] := Blk.pure (by repeat' (first | (with_reducible assumption) | (with_reducible exact Blk.new _ _ _) | (with_reducible exact Blk.new' (by simp)) | (with_reducible refine Blk.alloc ?_ _) | (with_reducible refine Blk.drew ?_) | (with_reducible refine Blk.drewN ?_ _) | (with_reducible refine Blk.ne ?_ ?_ _) | omega | (simp; omega))) hb
    replace hB := below_pure (w := w) (by go_grown) hb
    clear hb; replace hsz := hB.size
    clear k0_c0 k0_f0 k0_c1 k0_f1 k0_c2 k0_f2 k0_z
    have k0_c0 : c3.cell? ⟨c1.heap.size, 0, none⟩ = some (.int .i64 s) := Blk.get k0 rfl
    have k0_f0 : c3.frozen? ⟨c1.heap.size, 0, none⟩ = false := Blk.frozen k0 0
    have k0_c1 : c3.cell? ⟨c1.heap.size, 1, none⟩ = some (.int .i64 x) := Blk.get k0 rfl
    have k0_f1 : c3.frozen? ⟨c1.heap.size, 1, none⟩ = false := Blk.frozen k0 1
    have k0_c2 : c3.cell? ⟨c1.heap.size, 2, none⟩ = some (.int .i64 o) := Blk.get k0 rfl
    have k0_f2 : c3.frozen? ⟨c1.heap.size, 2, none⟩ = false := Blk.frozen k0 2
    have k0_z : c1.heap.size < c3.heap.size := Blk.lt k0
    go_wp2_with fail
    go_call (specPitchValid_any _ _ _ _) as e c4 ⟨rfl, hb⟩
    replace k0 : Blk c4 (c1.heap.size) 27 #[.int .i64 s, .int .i64 x, .int .i64 o] := Blk.pure (by repeat' (first | (with_reducible assumption) | (with_reducible exact Blk.new _ _ _) | (with_reducible exact Blk.new' (by simp)) | (with_reducible refine Blk.alloc ?_ _) | (with_reducible refine Blk.drew ?_) | (with_reducible refine Blk.drewN ?_ _) | (with_reducible refine Blk.ne ?_ ?_ _) | omega | (simp; omega))) hb
    replace hB := below_pure (w := w) (by go_grown) hb
    clear hb; replace hsz := hB.size
    clear k0_c0 k0_f0 k0_c1 k0_f1 k0_c2 k0_f2 k0_z
    have k0_c0 : c4.cell? ⟨c1.heap.size, 0, none⟩ = some (.int .i64 s) := Blk.get k0 rfl
    have k0_f0 : c4.frozen? ⟨c1.heap.size, 0, none⟩ = false := Blk.frozen k0 0
    have k0_c1 : c4.cell? ⟨c1.heap.size, 1, none⟩ = some (.int .i64 x) := Blk.get k0 rfl
    have k0_f1 : c4.frozen? ⟨c1.heap.size, 1, none⟩ = false := Blk.frozen k0 1
    have k0_c2 : c4.cell? ⟨c1.heap.size, 2, none⟩ = some (.int .i64 o) := Blk.get k0 rfl
    have k0_f2 : c4.frozen? ⟨c1.heap.size, 2, none⟩ = false := Blk.frozen k0 2
    have k0_z : c1.heap.size < c4.heap.size := Blk.lt k0
    go_wp2_with fail
    go_call (alive_any _) as e c5 ⟨rfl, hb⟩
    replace k0 : Blk c5 (c1.heap.size) 27 #[.int .i64 s, .int .i64 x, .int .i64 o] := Blk.pure (by repeat' (first | (with_reducible assumption) | (with_reducible exact Blk.new _ _ _) | (with_reducible exact Blk.new' (by simp)) | (with_reducible refine Blk.alloc ?_ _) | (with_reducible refine Blk.drew ?_) | (with_reducible refine Blk.drewN ?_ _) | (with_reducible refine Blk.ne ?_ ?_ _) | omega | (simp; omega))) hb
    replace hB := below_pure (w := w) (by go_grown) hb
    clear hb; replace hsz := hB.size
    clear k0_c0 k0_f0 k0_c1 k0_f1 k0_c2 k0_f2 k0_z
    have k0_c0 : c5.cell? ⟨c1.heap.size, 0, none⟩ = some (.int .i64 s) := Blk.get k0 rfl
    have k0_f0 : c5.frozen? ⟨c1.heap.size, 0, none⟩ = false := Blk.frozen k0 0
    have k0_c1 : c5.cell? ⟨c1.heap.size, 1, none⟩ = some (.int .i64 x) := Blk.get k0 rfl
    have k0_f1 : c5.frozen? ⟨c1.heap.size, 1, none⟩ = false := Blk.frozen k0 1
    have k0_c2 : c5.cell? ⟨c1.heap.size, 2, none⟩ = some (.int .i64 o) := Blk.get k0 rfl
    have k0_f2 : c5.frozen? ⟨c1.heap.size, 2, none⟩ = false := Blk.frozen k0 2
    have k0_z : c1.heap.size < c5.heap.size := Blk.lt k0
    go_wp2
    go_ret
    exact ⟨rfl, by go_grown⟩
  cases hk : inR f (-7) 7
  · have e1 := inKey_f (s := s) (a := x) (o := o) hk
    have hk' := inR_f hk
    clear hk
    obtain rfl | rfl : f = -8 ∨ f = 8 := by omega
    all_goals
      clear hk'
      go_wp2_with fail
      go_call (inKey_any _ _ _ _ _) as e c2 ⟨rfl, hb⟩
      have k0 : Blk c2 (c1.heap.size) 27 #[.int .i64 s, .int .i64 x, .int .i64 o] := Blk.pure (by repeat' (first | (with_reducible assumption) | (with_reducible exact Blk.new _ _ _) | (with_reducible exact Blk.new' (by simp)) | (with_reducible refine Blk.alloc ?_ _) | (with_reducible refine Blk.drew ?_) | (with_reducible refine Blk.drewN ?_ _) | (with_reducible refine Blk.ne ?_ ?_ _) | omega | (simp; omega))) hb
      replace hB := below_pure (w := w) (by go_grown) hb
      clear hb; replace hsz := hB.size
      have k0_c0 : c2.cell? ⟨c1.heap.size, 0, none⟩ = some (.int .i64 s) := Blk.get k0 rfl
      have k0_f0 : c2.frozen? ⟨c1.heap.size, 0, none⟩ = false := Blk.frozen k0 0
      have k0_c1 : c2.cell? ⟨c1.heap.size, 1, none⟩ = some (.int .i64 x) := Blk.get k0 rfl
      have k0_f1 : c2.frozen? ⟨c1.heap.size, 1, none⟩ = false := Blk.frozen k0 1
      have k0_c2 : c2.cell? ⟨c1.heap.size, 2, none⟩ = some (.int .i64 o) := Blk.get k0 rfl
      have k0_f2 : c2.frozen? ⟨c1.heap.size, 2, none⟩ = false := Blk.frozen k0 2
      have k0_z : c1.heap.size < c2.heap.size := Blk.lt k0
      go_wp2_with fail
      go_call (specInKey_any _ _ _ _ _) as e c3 ⟨rfl, hb⟩
      replace k0 : Blk c3 (c1.heap.size) 27 #[.int .i64 s, .int .i64 x, .int .i64 o] := Blk.pure (by repeat' (first | (with_reducible assumption) | (with_reducible exact Blk.new _ _ _) | (with_reducible exact Blk.new' (by simp)) | (with_reducible refine Blk.alloc ?_ _) | (with_reducible refine Blk.drew ?_) | (with_reducible refine Blk.drewN ?_ _) | (with_reducible refine Blk.ne ?_ ?_ _) | omega | (simp; omega))) hb
      replace hB := below_pure (w := w) (by go_grown) hb
      clear hb; replace hsz := hB.size
      clear k0_c0 k0_f0 k0_c1 k0_f1 k0_c2 k0_f2 k0_z
      have k0_c0 : c3.cell? ⟨c1.heap.size, 0, none⟩ = some (.int .i64 s) := Blk.get k0 rfl
      have k0_f0 : c3.frozen? ⟨c1.heap.size, 0, none⟩ = false := Blk.frozen k0 0
      have k0_c1 : c3.cell? ⟨c1.heap.size, 1, none⟩ = some (.int .i64 x) := Blk.get k0 rfl
      have k0_f1 : c3.frozen? ⟨c1.heap.size, 1, none⟩ = false := Blk.frozen k0 1
      have k0_c2 : c3.cell? ⟨c1.heap.size, 2, none⟩ = some (.int .i64 o) := Blk.get k0 rfl
      have k0_f2 : c3.frozen? ⟨c1.heap.size, 2, none⟩ = false := Blk.frozen k0 2
      have k0_z : c1.heap.size < c3.heap.size := Blk.lt k0
      go_wp2_with fail
      go_call (specPitchValid_any _ _ _ _) as e c4 ⟨rfl, hb⟩
      replace k0 : Blk c4 (c1.heap.size) 27 #[.int .i64 s, .int .i64 x, .int .i64 o] := Blk.pure (by repeat' (first | (with_reducible assumption) | (with_reducible exact Blk.new _ _ _) | (with_reducible exact Blk.new' (by simp)) | (with_reducible refine Blk.alloc ?_ _) | (with_reducible refine Blk.drew ?_) | (with_reducible refine Blk.drewN ?_ _) | (with_reducible refine Blk.ne ?_ ?_ _) | omega | (simp; omega))) hb
      replace hB := below_pure (w := w) (by go_grown) hb
      clear hb; replace hsz := hB.size
      clear k0_c0 k0_f0 k0_c1 k0_f1 k0_c2 k0_f2 k0_z
      have k0_c0 : c4.cell? ⟨c1.heap.size, 0, none⟩ = some (.int .i64 s) := Blk.get k0 rfl
      have k0_f0 : c4.frozen? ⟨c1.heap.size, 0, none⟩ = false := Blk.frozen k0 0
      have k0_c1 : c4.cell? ⟨c1.heap.size, 1, none⟩ = some (.int .i64 x) := Blk.get k0 rfl
      have k0_f1 : c4.frozen? ⟨c1.heap.size, 1, none⟩ = false := Blk.frozen k0 1
      have k0_c2 : c4.cell? ⟨c1.heap.size, 2, none⟩ = some (.int .i64 o) := Blk.get k0 rfl
      have k0_f2 : c4.frozen? ⟨c1.heap.size, 2, none⟩ = false := Blk.frozen k0 2
      have k0_z : c1.heap.size < c4.heap.size := Blk.lt k0
      go_wp2_with fail
      go_call (alive_any _) as e c5 ⟨rfl, hb⟩
      replace k0 : Blk c5 (c1.heap.size) 27 #[.int .i64 s, .int .i64 x, .int .i64 o] := Blk.pure (by repeat' (first | (with_reducible assumption) | (with_reducible exact Blk.new _ _ _) | (with_reducible exact Blk.new' (by simp)) | (with_reducible refine Blk.alloc ?_ _) | (with_reducible refine Blk.drew ?_) | (with_reducible refine Blk.drewN ?_ _) | (with_reducible refine Blk.ne ?_ ?_ _) | omega | (simp; omega))) hb
      replace hB := below_pure (w := w) (by go_grown) hb
      clear hb; replace hsz := hB.size
      clear k0_c0 k0_f0 k0_c1 k0_f1 k0_c2 k0_f2 k0_z
      have k0_c0 : c5.cell? ⟨c1.heap.size, 0, none⟩ = some (.int .i64 s) := Blk.get k0 rfl
      have k0_f0 : c5.frozen? ⟨c1.heap.size, 0, none⟩ = false := Blk.frozen k0 0
      have k0_c1 : c5.cell? ⟨c1.heap.size, 1, none⟩ = some (.int .i64 x) := Blk.get k0 rfl
      have k0_f1 : c5.frozen? ⟨c1.heap.size, 1, none⟩ = false := Blk.frozen k0 1
      have k0_c2 : c5.cell? ⟨c1.heap.size, 2, none⟩ = some (.int .i64 o) := Blk.get k0 rfl
      have k0_f2 : c5.frozen? ⟨c1.heap.size, 2, none⟩ = false := Blk.frozen k0 2
      have k0_z : c1.heap.size < c5.heap.size := Blk.lt k0
      go_wp2
      go_ret
      exact ⟨rfl, by go_grown⟩
  have hb := pitchB_t hv
  have hq := inR_t hk
  have e1 := inKey_valid hk hv
  have e2 := inKey_valid (a := x) hk (pitchB_mk (s := s) (a := x) (o := 4) (by omega))
  obtain ⟨q0, q1⟩ := hq
  clear hb
  cases hx : (x == altV f s)
  all_goals
    rw [hx] at e1 e2
    have HI := inKey_any f s x 4
    rw [e2] at HI
    replace HI := Lib.hid HI
    clear e2
    go_wp2_with fail
    go_call (inKey_any _ _ _ _ _) as e c2 ⟨rfl, hb⟩
    have k0 : Blk c2 (c1.heap.size) 27 #[.int .i64 s, .int .i64 x, .int .i64 o] := Blk.pure (by repeat' (first | (with_reducible assumption) | (with_reducible exact Blk.new _ _ _) | (with_reducible exact Blk.new' (by simp)) | (with_reducible refine Blk.alloc ?_ _) | (with_reducible refine Blk.drew ?_) | (with_reducible refine Blk.drewN ?_ _) | (with_reducible refine Blk.ne ?_ ?_ _) | omega | (simp; omega))) hb
    replace hB := below_pure (w := w) (by go_grown) hb
    clear hb; replace hsz := hB.size
    have k0_c0 : c2.cell? ⟨c1.heap.size, 0, none⟩ = some (.int .i64 s) := Blk.get k0 rfl
    have k0_f0 : c2.frozen? ⟨c1.heap.size, 0, none⟩ = false := Blk.frozen k0 0
    have k0_c1 : c2.cell? ⟨c1.heap.size, 1, none⟩ = some (.int .i64 x) := Blk.get k0 rfl
    have k0_f1 : c2.frozen? ⟨c1.heap.size, 1, none⟩ = false := Blk.frozen k0 1
    have k0_c2 : c2.cell? ⟨c1.heap.size, 2, none⟩ = some (.int .i64 o) := Blk.get k0 rfl
    have k0_f2 : c2.frozen? ⟨c1.heap.size, 2, none⟩ = false := Blk.frozen k0 2
    have k0_z : c1.heap.size < c2.heap.size := Blk.lt k0
    go_wp2_with fail
    go_call (specInKey_any _ _ _ _ _) as e c3 ⟨rfl, hb⟩
    replace k0 : Blk c3 (c1.heap.size) 27 #[.int .i64 s, .int .i64 x, .int .i64 o] := Blk.pure (by repeat' (first | (with_reducible assumption) | (with_reducible exact Blk.new _ _ _) | (with_reducible exact Blk.new' (by simp)) | (with_reducible refine Blk.alloc ?_ _) | (with_reducible refine Blk.drew ?_) | (with_reducible refine Blk.drewN ?_ _) | (with_reducible refine Blk.ne ?_ ?_ _) | omega | (simp; omega))) hb
    replace hB := below_pure (w := w) (by go_grown) hb
    clear hb; replace hsz := hB.size
    clear k0_c0 k0_f0 k0_c1 k0_f1 k0_c2 k0_f2 k0_z
    have k0_c0 : c3.cell? ⟨c1.heap.size, 0, none⟩ = some (.int .i64 s) := Blk.get k0 rfl
    have k0_f0 : c3.frozen? ⟨c1.heap.size, 0, none⟩ = false := Blk.frozen k0 0
    have k0_c1 : c3.cell? ⟨c1.heap.size, 1, none⟩ = some (.int .i64 x) := Blk.get k0 rfl
    have k0_f1 : c3.frozen? ⟨c1.heap.size, 1, none⟩ = false := Blk.frozen k0 1
    have k0_c2 : c3.cell? ⟨c1.heap.size, 2, none⟩ = some (.int .i64 o) := Blk.get k0 rfl
    have k0_f2 : c3.frozen? ⟨c1.heap.size, 2, none⟩ = false := Blk.frozen k0 2
    have k0_z : c1.heap.size < c3.heap.size := Blk.lt k0
    go_wp2_with fail
    go_call (specPitchValid_any _ _ _ _) as e c4 ⟨rfl, hb⟩
    replace k0 : Blk c4 (c1.heap.size) 27 #[.int .i64 s, .int .i64 x, .int .i64 o] := Blk.pure (by repeat' (first | (with_reducible assumption) | (with_reducible exact Blk.new _ _ _) | (with_reducible exact Blk.new' (by simp)) | (with_reducible refine Blk.alloc ?_ _) | (with_reducible refine Blk.drew ?_) | (with_reducible refine Blk.drewN ?_ _) | (with_reducible refine Blk.ne ?_ ?_ _) | omega | (simp; omega))) hb
    replace hB := below_pure (w := w) (by go_grown) hb
    clear hb; replace hsz := hB.size
    clear k0_c0 k0_f0 k0_c1 k0_f1 k0_c2 k0_f2 k0_z
    have k0_c0 : c4.cell? ⟨c1.heap.size, 0, none⟩ = some (.int .i64 s) := Blk.get k0 rfl
    have k0_f0 : c4.frozen? ⟨c1.heap.size, 0, none⟩ = false := Blk.frozen k0 0
    have k0_c1 : c4.cell? ⟨c1.heap.size, 1, none⟩ = some (.int .i64 x) := Blk.get k0 rfl
    have k0_f1 : c4.frozen? ⟨c1.heap.size, 1, none⟩ = false := Blk.frozen k0 1
    have k0_c2 : c4.cell? ⟨c1.heap.size, 2, none⟩ = some (.int .i64 o) := Blk.get k0 rfl
    have k0_f2 : c4.frozen? ⟨c1.heap.size, 2, none⟩ = false := Blk.frozen k0 2
    have k0_z : c1.heap.size < c4.heap.size := Blk.lt k0
    go_wp2_with fail
    have HSd := Lib.hid (show Blk c4.drew (c1.heap.size) 27 #[.int .i64 s, .int .i64 x, .int .i64 o] ∧ c4.drew.cell? ⟨c1.heap.size, 0, none⟩ = some (.int .i64 s) ∧ c4.drew.cell? ⟨c1.heap.size, 1, none⟩ = some (.int .i64 x) ∧ c4.drew.cell? ⟨c1.heap.size, 2, none⟩ = some (.int .i64 o) ∧ Below w.heap.size w c4.drew from ⟨k0, k0_c0, k0_c1, k0_c2, hB.drew⟩)
    have hz : c1.heap.size < c4.heap.size := k0_z
    clear hB k0_c0 k0_f0 k0_c1 k0_f1 k0_c2 k0_f2 k0_z k0
    go_region_held3 (fun w' => Blk w' (c1.heap.size) 27 #[.int .i64 s, .int .i64 x, .int .i64 o] ∧ w'.cell? ⟨c1.heap.size, 0, none⟩ = some (.int .i64 s) ∧ w'.cell? ⟨c1.heap.size, 1, none⟩ = some (.int .i64 x) ∧ w'.cell? ⟨c1.heap.size, 2, none⟩ = some (.int .i64 o) ∧ Below w.heap.size w w')
      (first | exact HSd.out | (go_split_ands; go_split_ands; (repeat' apply And.intro) <;> first | (with_reducible assumption) | (with_reducible exact Blk.pure (by assumption) hbc) | (with_reducible exact Blk.get (Blk.pure (by assumption) hbc) rfl) | (with_reducible exact below_pure (by assumption) hbc) | (with_reducible exact Blk.alloc (by assumption) _) | (with_reducible exact Blk.get (Blk.alloc (by assumption) _) rfl) | (with_reducible exact Below.alloc (by assumption) (Below.size (by assumption)) _) | (with_reducible exact Blk.drew (Blk.alloc (Blk.undrew (by assumption)) _)) | (with_reducible exact Blk.get (Blk.drew (Blk.alloc (Blk.undrew (by assumption)) _)) rfl) | (with_reducible exact Below.drew (Below.alloc (below_undrew (by assumption)) (Below.size (below_undrew (by assumption))) _)) | (with_reducible exact Blk.swap (by assumption) (by omega)) | (with_reducible exact Blk.get (Blk.swap (by assumption) (by omega)) rfl) | (with_reducible exact below_swap (by assumption) (by omega))))
      (first | ((go_at_call 18; refine (keyAlter_any _ _ _).mono ?_; rintro e w2 ⟨rfl, hbc⟩); have hz : c1.heap.size < w2.heap.size := (by (go_split_ands; refine Nat.lt_of_lt_of_le ?_ hbc.size; exact Blk.lt (by assumption)))) | ((go_at_call 21; refine (HI.out _).mono ?_; rintro e w2 ⟨rfl, hbc⟩); have hz : c1.heap.size < w2.heap.size := (by (go_split_ands; refine Nat.lt_of_lt_of_le ?_ hbc.size; exact Blk.lt (by assumption)))))
    all_goals
      clear HSd
      go_split_ands
      go_wp2
      go_ret
      exact ⟨rfl, by assumption⟩
end Go.Proofs.Ytojkbeffhjcaiaa

/- The walk of the law FnKeyTonic: it returns true, and nothing that was there turns. No condition. -/
import Derived.Test.YtojkbeffhjcaiaaDk
import Derived.Test.YtojkbeffhjcaiaaAl
import Derived.Test.YtojkbeffhjcaiaaKm
namespace Go.Proofs.Ytojkbeffhjcaiaa
open Go.RowKit

set_option maxHeartbeats 2000000 in
set_option maxRecDepth 100000 in
theorem fnKeyTonic_walk (a : Option Addr) (len cap : Nat) (w : World) (hC : Code' w a len cap) :
    Calls Try.prog 11 #[.slice a len cap] w (Gives (.bool true) w) := by
  by_cases hlen : 1048576 < len
  · have hcap : len ≤ 9223372036854775807 := by have h1 := hC.2.1; have h2 := hC.2.2; unfold maxLen at h2; omega
    go_enter Try.func11, Try.ntmps11
    go_wp2
    go_ret
    exact ⟨rfl, by go_grown⟩
  have hlen' : len ≤ 1048576 := by omega
  have HC := Lib.hid hC
  clear hC
  go_enter Try.func11, Try.ntmps11
  go_wp2_with fail
  refine (drawKeyTonic_any _ _ _ _ HC.out hlen').mono ?_
  rintro e c1 ⟨f, b, rfl, ⟨f0, f1⟩, hb⟩
  have hB : Below w.heap.size w c1 := by have h := below_pure (w := w) (by go_grown) hb; exact h
  have hsz := hB.size
  clear hb HC
  cases hk : inR f (-7) 7
  · have hk' := inR_f hk
    have e1 := tonS_f (m := b) hk
    have e2 := tonA_f (m := b) hk
    have e3 := tonO_f hk
    obtain rfl | rfl : f = -8 ∨ f = 8 := by omega
    all_goals
      clear hk'
      go_wp2_with fail
      go_call (keyTonic_any _ _ _) as e c2 ⟨rfl, hb⟩
      replace hB := below_pure (w := w) (by go_grown) hb
      clear hb; replace hsz := hB.size
      go_wp2_with fail
      go_call (specKeyTonic_any _ _ _) as e c3 ⟨rfl, hb⟩
      have k0 : Blk c3 (c2.heap.size) 27 #[.int .i64 0, .int .i64 0, .int .i64 0] := Blk.pure (by repeat' (first | (with_reducible assumption) | (with_reducible exact Blk.new _ _ _) | (with_reducible exact Blk.new' (by simp)) | (with_reducible refine Blk.alloc ?_ _) | (with_reducible refine Blk.drew ?_) | (with_reducible refine Blk.drewN ?_ _) | (with_reducible refine Blk.ne ?_ ?_ _) | omega | (simp; omega))) hb
      replace hB := below_pure (w := w) (by go_grown) hb
      clear hb; replace hsz := hB.size
      have k0_c0 : c3.cell? ⟨c2.heap.size, 0, none⟩ = some (.int .i64 0) := Blk.get k0 rfl
      have k0_f0 : c3.frozen? ⟨c2.heap.size, 0, none⟩ = false := Blk.frozen k0 0
      have k0_c1 : c3.cell? ⟨c2.heap.size, 1, none⟩ = some (.int .i64 0) := Blk.get k0 rfl
      have k0_f1 : c3.frozen? ⟨c2.heap.size, 1, none⟩ = false := Blk.frozen k0 1
      have k0_c2 : c3.cell? ⟨c2.heap.size, 2, none⟩ = some (.int .i64 0) := Blk.get k0 rfl
      have k0_f2 : c3.frozen? ⟨c2.heap.size, 2, none⟩ = false := Blk.frozen k0 2
      have k0_z : c2.heap.size < c3.heap.size := Blk.lt k0
      go_wp2_with fail
      go_call (alive_any _) as e c4 ⟨rfl, hb⟩
      replace k0 : Blk c4 (c2.heap.size) 27 #[.int .i64 0, .int .i64 0, .int .i64 0] := Blk.pure (by repeat' (first | (with_reducible assumption) | (with_reducible exact Blk.new _ _ _) | (with_reducible exact Blk.new' (by simp)) | (with_reducible refine Blk.alloc ?_ _) | (with_reducible refine Blk.drew ?_) | (with_reducible refine Blk.drewN ?_ _) | (with_reducible refine Blk.ne ?_ ?_ _) | omega | (simp; omega))) hb
      have k1 : Blk c4 (c3.heap.size) 27 #[.int .i64 0, .int .i64 0, .int .i64 0] := Blk.pure (by repeat' (first | (with_reducible assumption) | (with_reducible exact Blk.new _ _ _) | (with_reducible exact Blk.new' (by simp)) | (with_reducible refine Blk.alloc ?_ _) | (with_reducible refine Blk.drew ?_) | (with_reducible refine Blk.drewN ?_ _) | (with_reducible refine Blk.ne ?_ ?_ _) | omega | (simp; omega))) hb
      replace hB := below_pure (w := w) (by go_grown) hb
      clear hb; replace hsz := hB.size
      clear k0_c0 k0_f0 k0_c1 k0_f1 k0_c2 k0_f2 k0_z
      have k0_c0 : c4.cell? ⟨c2.heap.size, 0, none⟩ = some (.int .i64 0) := Blk.get k0 rfl
      have k0_f0 : c4.frozen? ⟨c2.heap.size, 0, none⟩ = false := Blk.frozen k0 0
      have k0_c1 : c4.cell? ⟨c2.heap.size, 1, none⟩ = some (.int .i64 0) := Blk.get k0 rfl
      have k0_f1 : c4.frozen? ⟨c2.heap.size, 1, none⟩ = false := Blk.frozen k0 1
      have k0_c2 : c4.cell? ⟨c2.heap.size, 2, none⟩ = some (.int .i64 0) := Blk.get k0 rfl
      have k0_f2 : c4.frozen? ⟨c2.heap.size, 2, none⟩ = false := Blk.frozen k0 2
      have k0_z : c2.heap.size < c4.heap.size := Blk.lt k0
      have k1_c0 : c4.cell? ⟨c3.heap.size, 0, none⟩ = some (.int .i64 0) := Blk.get k1 rfl
      have k1_f0 : c4.frozen? ⟨c3.heap.size, 0, none⟩ = false := Blk.frozen k1 0
      have k1_c1 : c4.cell? ⟨c3.heap.size, 1, none⟩ = some (.int .i64 0) := Blk.get k1 rfl
      have k1_f1 : c4.frozen? ⟨c3.heap.size, 1, none⟩ = false := Blk.frozen k1 1
      have k1_c2 : c4.cell? ⟨c3.heap.size, 2, none⟩ = some (.int .i64 0) := Blk.get k1 rfl
      have k1_f2 : c4.frozen? ⟨c3.heap.size, 2, none⟩ = false := Blk.frozen k1 2
      have k1_z : c3.heap.size < c4.heap.size := Blk.lt k1
      go_wp2
      go_ret
      exact ⟨rfl, by go_grown⟩
  · obtain ⟨e1, e2, e3⟩ := ton_back f b hk
    go_wp2_with fail
    go_call (keyTonic_any _ _ _) as e c2 ⟨rfl, hb⟩
    replace hB := below_pure (w := w) (by go_grown) hb
    clear hb; replace hsz := hB.size
    go_wp2_with fail
    go_call (specKeyTonic_any _ _ _) as e c3 ⟨rfl, hb⟩
    have k0 : Blk c3 (c2.heap.size) 27 #[.int .i64 (tonS f b), .int .i64 (tonA f b), .int .i64 (tonO f)] := Blk.pure (by repeat' (first | (with_reducible assumption) | (with_reducible exact Blk.new _ _ _) | (with_reducible exact Blk.new' (by simp)) | (with_reducible refine Blk.alloc ?_ _) | (with_reducible refine Blk.drew ?_) | (with_reducible refine Blk.drewN ?_ _) | (with_reducible refine Blk.ne ?_ ?_ _) | omega | (simp; omega))) hb
    replace hB := below_pure (w := w) (by go_grown) hb
    clear hb; replace hsz := hB.size
    have k0_c0 : c3.cell? ⟨c2.heap.size, 0, none⟩ = some (.int .i64 (tonS f b)) := Blk.get k0 rfl
    have k0_f0 : c3.frozen? ⟨c2.heap.size, 0, none⟩ = false := Blk.frozen k0 0
    have k0_c1 : c3.cell? ⟨c2.heap.size, 1, none⟩ = some (.int .i64 (tonA f b)) := Blk.get k0 rfl
    have k0_f1 : c3.frozen? ⟨c2.heap.size, 1, none⟩ = false := Blk.frozen k0 1
    have k0_c2 : c3.cell? ⟨c2.heap.size, 2, none⟩ = some (.int .i64 (tonO f)) := Blk.get k0 rfl
    have k0_f2 : c3.frozen? ⟨c2.heap.size, 2, none⟩ = false := Blk.frozen k0 2
    have k0_z : c2.heap.size < c3.heap.size := Blk.lt k0
    go_wp2_with fail
    go_call (keyOf_any _ _ _ _ _) as e c4 ⟨rfl, hb⟩
    replace k0 : Blk c4 (c2.heap.size) 27 #[.int .i64 (tonS f b), .int .i64 (tonA f b), .int .i64 (tonO f)] := Blk.pure (by repeat' (first | (with_reducible assumption) | (with_reducible exact Blk.new _ _ _) | (with_reducible exact Blk.new' (by simp)) | (with_reducible refine Blk.alloc ?_ _) | (with_reducible refine Blk.drew ?_) | (with_reducible refine Blk.drewN ?_ _) | (with_reducible refine Blk.ne ?_ ?_ _) | omega | (simp; omega))) hb
    have k1 : Blk c4 (c3.heap.size) 27 #[.int .i64 (tonS f b), .int .i64 (tonA f b), .int .i64 (tonO f)] := Blk.pure (by repeat' (first | (with_reducible assumption) | (with_reducible exact Blk.new _ _ _) | (with_reducible exact Blk.new' (by simp)) | (with_reducible refine Blk.alloc ?_ _) | (with_reducible refine Blk.drew ?_) | (with_reducible refine Blk.drewN ?_ _) | (with_reducible refine Blk.ne ?_ ?_ _) | omega | (simp; omega))) hb
    replace hB := below_pure (w := w) (by go_grown) hb
    clear hb; replace hsz := hB.size
    clear k0_c0 k0_f0 k0_c1 k0_f1 k0_c2 k0_f2 k0_z
    have k0_c0 : c4.cell? ⟨c2.heap.size, 0, none⟩ = some (.int .i64 (tonS f b)) := Blk.get k0 rfl
    have k0_f0 : c4.frozen? ⟨c2.heap.size, 0, none⟩ = false := Blk.frozen k0 0
    have k0_c1 : c4.cell? ⟨c2.heap.size, 1, none⟩ = some (.int .i64 (tonA f b)) := Blk.get k0 rfl
    have k0_f1 : c4.frozen? ⟨c2.heap.size, 1, none⟩ = false := Blk.frozen k0 1
    have k0_c2 : c4.cell? ⟨c2.heap.size, 2, none⟩ = some (.int .i64 (tonO f)) := Blk.get k0 rfl
    have k0_f2 : c4.frozen? ⟨c2.heap.size, 2, none⟩ = false := Blk.frozen k0 2
    have k0_z : c2.heap.size < c4.heap.size := Blk.lt k0
    have k1_c0 : c4.cell? ⟨c3.heap.size, 0, none⟩ = some (.int .i64 (tonS f b)) := Blk.get k1 rfl
    have k1_f0 : c4.frozen? ⟨c3.heap.size, 0, none⟩ = false := Blk.frozen k1 0
    have k1_c1 : c4.cell? ⟨c3.heap.size, 1, none⟩ = some (.int .i64 (tonA f b)) := Blk.get k1 rfl
    have k1_f1 : c4.frozen? ⟨c3.heap.size, 1, none⟩ = false := Blk.frozen k1 1
    have k1_c2 : c4.cell? ⟨c3.heap.size, 2, none⟩ = some (.int .i64 (tonO f)) := Blk.get k1 rfl
    have k1_f2 : c4.frozen? ⟨c3.heap.size, 2, none⟩ = false := Blk.frozen k1 2
    have k1_z : c3.heap.size < c4.heap.size := Blk.lt k1
    go_wp2_with fail
    go_call (inKey_any _ _ _ _ _) as e c5 ⟨rfl, hb⟩
    replace k0 : Blk c5 (c2.heap.size) 27 #[.int .i64 (tonS f b), .int .i64 (tonA f b), .int .i64 (tonO f)] := Blk.pure (by repeat' (first | (with_reducible assumption) | (with_reducible exact Blk.new _ _ _) | (with_reducible exact Blk.new' (by simp)) | (with_reducible refine Blk.alloc ?_ _) | (with_reducible refine Blk.drew ?_) | (with_reducible refine Blk.drewN ?_ _) | (with_reducible refine Blk.ne ?_ ?_ _) | omega | (simp; omega))) hb
    replace k1 : Blk c5 (c3.heap.size) 27 #[.int .i64 (tonS f b), .int .i64 (tonA f b), .int .i64 (tonO f)] := Blk.pure (by repeat' (first | (with_reducible assumption) | (with_reducible exact Blk.new _ _ _) | (with_reducible exact Blk.new' (by simp)) | (with_reducible refine Blk.alloc ?_ _) | (with_reducible refine Blk.drew ?_) | (with_reducible refine Blk.drewN ?_ _) | (with_reducible refine Blk.ne ?_ ?_ _) | omega | (simp; omega))) hb
    replace hB := below_pure (w := w) (by go_grown) hb
    clear hb; replace hsz := hB.size
    clear k0_c0 k0_f0 k0_c1 k0_f1 k0_c2 k0_f2 k0_z k1_c0 k1_f0 k1_c1 k1_f1 k1_c2 k1_f2 k1_z
    have k0_c0 : c5.cell? ⟨c2.heap.size, 0, none⟩ = some (.int .i64 (tonS f b)) := Blk.get k0 rfl
    have k0_f0 : c5.frozen? ⟨c2.heap.size, 0, none⟩ = false := Blk.frozen k0 0
    have k0_c1 : c5.cell? ⟨c2.heap.size, 1, none⟩ = some (.int .i64 (tonA f b)) := Blk.get k0 rfl
    have k0_f1 : c5.frozen? ⟨c2.heap.size, 1, none⟩ = false := Blk.frozen k0 1
    have k0_c2 : c5.cell? ⟨c2.heap.size, 2, none⟩ = some (.int .i64 (tonO f)) := Blk.get k0 rfl
    have k0_f2 : c5.frozen? ⟨c2.heap.size, 2, none⟩ = false := Blk.frozen k0 2
    have k0_z : c2.heap.size < c5.heap.size := Blk.lt k0
    have k1_c0 : c5.cell? ⟨c3.heap.size, 0, none⟩ = some (.int .i64 (tonS f b)) := Blk.get k1 rfl
    have k1_f0 : c5.frozen? ⟨c3.heap.size, 0, none⟩ = false := Blk.frozen k1 0
    have k1_c1 : c5.cell? ⟨c3.heap.size, 1, none⟩ = some (.int .i64 (tonA f b)) := Blk.get k1 rfl
    have k1_f1 : c5.frozen? ⟨c3.heap.size, 1, none⟩ = false := Blk.frozen k1 1
    have k1_c2 : c5.cell? ⟨c3.heap.size, 2, none⟩ = some (.int .i64 (tonO f)) := Blk.get k1 rfl
    have k1_f2 : c5.frozen? ⟨c3.heap.size, 2, none⟩ = false := Blk.frozen k1 2
    have k1_z : c3.heap.size < c5.heap.size := Blk.lt k1
    go_wp2
    go_ret
    exact ⟨rfl, by go_grown⟩
end Go.Proofs.Ytojkbeffhjcaiaa

/- The walk of the law FnSpellKey: it returns true, and nothing that was there turns. No condition. -/
import Derived.Test.YtgogpjlemaajeaaDs
import Derived.Test.YtgogpjlemaajeaaAl
import Derived.Test.YtgogpjlemaajeaaSm
namespace Go.Proofs.Ytgogpjlemaajeaa
open Go.RowKit

set_option maxHeartbeats 2000000 in
set_option maxRecDepth 100000 in
theorem fnSpellKey_walk (a : Option Addr) (len cap : Nat) (w : World) (hC : Code' w a len cap) :
    Calls Try.prog 14 #[.slice a len cap] w (Gives (.bool true) w) := by
  by_cases hlen : 1048576 < len
  · have hcap : len ≤ 9223372036854775807 := by have h1 := hC.2.1; have h2 := hC.2.2; unfold maxLen at h2; omega
    go_enter Try.func14, Try.ntmps14
    go_wp2
    go_ret
    exact ⟨rfl, by go_grown⟩
  have hlen' : len ≤ 1048576 := by omega
  have HC := Lib.hid hC
  clear hC
  go_enter Try.func14, Try.ntmps14
  go_wp2_with fail
  refine (drawSpellKey_any _ _ _ _ HC.out hlen').mono ?_
  rintro e c1 ⟨f, b, rfl, ⟨f0, f1⟩, hb⟩
  have hB : Below w.heap.size w c1 := by have h := below_pure (w := w) (by go_grown) hb; exact h
  have hsz := hB.size
  clear hb HC
  cases hk : inR f 0 107
  · have hk' := inR_f hk
    obtain rfl | rfl : f = -1 ∨ f = 108 := by omega
    · clear hk'
      obtain ⟨e1, e2, e3⟩ := sk_f b hk
      go_wp2_with fail
      go_call (spellKey_any _ _ _) as e c2 ⟨rfl, hb⟩
      replace hB := below_pure (w := w) (by go_grown) hb
      clear hb; replace hsz := hB.size
      go_wp2_with fail
      go_call (specSpellKey_any _ _ _) as e c3 ⟨rfl, hb⟩
      have k0 : Blk c3 (c2.heap.size) 25 #[.int .i64 0, .int .i64 0, .int .i64 0] := Blk.pure (by repeat' (first | (with_reducible assumption) | (with_reducible exact Blk.new _ _ _) | (with_reducible exact Blk.new' (by simp)) | (with_reducible refine Blk.alloc ?_ _) | (with_reducible refine Blk.drew ?_) | (with_reducible refine Blk.drewN ?_ _) | (with_reducible refine Blk.ne ?_ ?_ _) | omega | (simp; omega))) hb
      replace hB := below_pure (w := w) (by go_grown) hb
      clear hb; replace hsz := hB.size
      have k0_c0 : c3.cell? ⟨c2.heap.size, 0, none⟩ = some (.int .i64 0) := Blk.get k0 rfl
      have k0_f0 : c3.frozen? ⟨c2.heap.size, 0, none⟩ = false := Blk.frozen k0 0
      have k0_c1 : c3.cell? ⟨c2.heap.size, 1, none⟩ = some (.int .i64 0) := Blk.get k0 rfl
      have k0_f1 : c3.frozen? ⟨c2.heap.size, 1, none⟩ = false := Blk.frozen k0 1
      have k0_c2 : c3.cell? ⟨c2.heap.size, 2, none⟩ = some (.int .i64 0) := Blk.get k0 rfl
      have k0_f2 : c3.frozen? ⟨c2.heap.size, 2, none⟩ = false := Blk.frozen k0 2
      have k0_z : c2.heap.size < c3.heap.size := Blk.lt k0
      go_wp2_with fail
      go_call (alive_any _) as e c4 ⟨rfl, hb⟩
      replace k0 : Blk c4 (c2.heap.size) 25 #[.int .i64 0, .int .i64 0, .int .i64 0] := Blk.pure (by repeat' (first | (with_reducible assumption) | (with_reducible exact Blk.new _ _ _) | (with_reducible exact Blk.new' (by simp)) | (with_reducible refine Blk.alloc ?_ _) | (with_reducible refine Blk.drew ?_) | (with_reducible refine Blk.drewN ?_ _) | (with_reducible refine Blk.ne ?_ ?_ _) | omega | (simp; omega))) hb
      have k1 : Blk c4 (c3.heap.size) 25 #[.int .i64 0, .int .i64 0, .int .i64 0] := Blk.pure (by repeat' (first | (with_reducible assumption) | (with_reducible exact Blk.new _ _ _) | (with_reducible exact Blk.new' (by simp)) | (with_reducible refine Blk.alloc ?_ _) | (with_reducible refine Blk.drew ?_) | (with_reducible refine Blk.drewN ?_ _) | (with_reducible refine Blk.ne ?_ ?_ _) | omega | (simp; omega))) hb
      replace hB := below_pure (w := w) (by go_grown) hb
      clear hb; replace hsz := hB.size
      clear k0_c0 k0_f0 k0_c1 k0_f1 k0_c2 k0_f2 k0_z
      have k0_c0 : c4.cell? ⟨c2.heap.size, 0, none⟩ = some (.int .i64 0) := Blk.get k0 rfl
      have k0_f0 : c4.frozen? ⟨c2.heap.size, 0, none⟩ = false := Blk.frozen k0 0
      have k0_c1 : c4.cell? ⟨c2.heap.size, 1, none⟩ = some (.int .i64 0) := Blk.get k0 rfl
      have k0_f1 : c4.frozen? ⟨c2.heap.size, 1, none⟩ = false := Blk.frozen k0 1
      have k0_c2 : c4.cell? ⟨c2.heap.size, 2, none⟩ = some (.int .i64 0) := Blk.get k0 rfl
      have k0_f2 : c4.frozen? ⟨c2.heap.size, 2, none⟩ = false := Blk.frozen k0 2
      have k0_z : c2.heap.size < c4.heap.size := Blk.lt k0
      have k1_c0 : c4.cell? ⟨c3.heap.size, 0, none⟩ = some (.int .i64 0) := Blk.get k1 rfl
      have k1_f0 : c4.frozen? ⟨c3.heap.size, 0, none⟩ = false := Blk.frozen k1 0
      have k1_c1 : c4.cell? ⟨c3.heap.size, 1, none⟩ = some (.int .i64 0) := Blk.get k1 rfl
      have k1_f1 : c4.frozen? ⟨c3.heap.size, 1, none⟩ = false := Blk.frozen k1 1
      have k1_c2 : c4.cell? ⟨c3.heap.size, 2, none⟩ = some (.int .i64 0) := Blk.get k1 rfl
      have k1_f2 : c4.frozen? ⟨c3.heap.size, 2, none⟩ = false := Blk.frozen k1 2
      have k1_z : c3.heap.size < c4.heap.size := Blk.lt k1
      go_wp2
      go_ret
      exact ⟨rfl, by go_grown⟩
    · clear hk'
      obtain ⟨e1, e2, e3⟩ := sk_f b hk
      go_wp2_with fail
      go_call (spellKey_any _ _ _) as e c2 ⟨rfl, hb⟩
      replace hB := below_pure (w := w) (by go_grown) hb
      clear hb; replace hsz := hB.size
      go_wp2_with fail
      go_call (specSpellKey_any _ _ _) as e c3 ⟨rfl, hb⟩
      have k0 : Blk c3 (c2.heap.size) 25 #[.int .i64 0, .int .i64 0, .int .i64 0] := Blk.pure (by repeat' (first | (with_reducible assumption) | (with_reducible exact Blk.new _ _ _) | (with_reducible exact Blk.new' (by simp)) | (with_reducible refine Blk.alloc ?_ _) | (with_reducible refine Blk.drew ?_) | (with_reducible refine Blk.drewN ?_ _) | (with_reducible refine Blk.ne ?_ ?_ _) | omega | (simp; omega))) hb
      replace hB := below_pure (w := w) (by go_grown) hb
      clear hb; replace hsz := hB.size
      have k0_c0 : c3.cell? ⟨c2.heap.size, 0, none⟩ = some (.int .i64 0) := Blk.get k0 rfl
      have k0_f0 : c3.frozen? ⟨c2.heap.size, 0, none⟩ = false := Blk.frozen k0 0
      have k0_c1 : c3.cell? ⟨c2.heap.size, 1, none⟩ = some (.int .i64 0) := Blk.get k0 rfl
      have k0_f1 : c3.frozen? ⟨c2.heap.size, 1, none⟩ = false := Blk.frozen k0 1
      have k0_c2 : c3.cell? ⟨c2.heap.size, 2, none⟩ = some (.int .i64 0) := Blk.get k0 rfl
      have k0_f2 : c3.frozen? ⟨c2.heap.size, 2, none⟩ = false := Blk.frozen k0 2
      have k0_z : c2.heap.size < c3.heap.size := Blk.lt k0
      go_wp2_with fail
      go_call (alive_any _) as e c4 ⟨rfl, hb⟩
      replace k0 : Blk c4 (c2.heap.size) 25 #[.int .i64 0, .int .i64 0, .int .i64 0] := Blk.pure (by repeat' (first | (with_reducible assumption) | (with_reducible exact Blk.new _ _ _) | (with_reducible exact Blk.new' (by simp)) | (with_reducible refine Blk.alloc ?_ _) | (with_reducible refine Blk.drew ?_) | (with_reducible refine Blk.drewN ?_ _) | (with_reducible refine Blk.ne ?_ ?_ _) | omega | (simp; omega))) hb
      have k1 : Blk c4 (c3.heap.size) 25 #[.int .i64 0, .int .i64 0, .int .i64 0] := Blk.pure (by repeat' (first | (with_reducible assumption) | (with_reducible exact Blk.new _ _ _) | (with_reducible exact Blk.new' (by simp)) | (with_reducible refine Blk.alloc ?_ _) | (with_reducible refine Blk.drew ?_) | (with_reducible refine Blk.drewN ?_ _) | (with_reducible refine Blk.ne ?_ ?_ _) | omega | (simp; omega))) hb
      replace hB := below_pure (w := w) (by go_grown) hb
      clear hb; replace hsz := hB.size
      clear k0_c0 k0_f0 k0_c1 k0_f1 k0_c2 k0_f2 k0_z
      have k0_c0 : c4.cell? ⟨c2.heap.size, 0, none⟩ = some (.int .i64 0) := Blk.get k0 rfl
      have k0_f0 : c4.frozen? ⟨c2.heap.size, 0, none⟩ = false := Blk.frozen k0 0
      have k0_c1 : c4.cell? ⟨c2.heap.size, 1, none⟩ = some (.int .i64 0) := Blk.get k0 rfl
      have k0_f1 : c4.frozen? ⟨c2.heap.size, 1, none⟩ = false := Blk.frozen k0 1
      have k0_c2 : c4.cell? ⟨c2.heap.size, 2, none⟩ = some (.int .i64 0) := Blk.get k0 rfl
      have k0_f2 : c4.frozen? ⟨c2.heap.size, 2, none⟩ = false := Blk.frozen k0 2
      have k0_z : c2.heap.size < c4.heap.size := Blk.lt k0
      have k1_c0 : c4.cell? ⟨c3.heap.size, 0, none⟩ = some (.int .i64 0) := Blk.get k1 rfl
      have k1_f0 : c4.frozen? ⟨c3.heap.size, 0, none⟩ = false := Blk.frozen k1 0
      have k1_c1 : c4.cell? ⟨c3.heap.size, 1, none⟩ = some (.int .i64 0) := Blk.get k1 rfl
      have k1_f1 : c4.frozen? ⟨c3.heap.size, 1, none⟩ = false := Blk.frozen k1 1
      have k1_c2 : c4.cell? ⟨c3.heap.size, 2, none⟩ = some (.int .i64 0) := Blk.get k1 rfl
      have k1_f2 : c4.frozen? ⟨c3.heap.size, 2, none⟩ = false := Blk.frozen k1 2
      have k1_z : c3.heap.size < c4.heap.size := Blk.lt k1
      go_wp2
      go_ret
      exact ⟨rfl, by go_grown⟩
  · have ek0 := sk_key false hk
    have ek1 := sk_key true hk
    by_cases hn : 0 ≤ nst (f % 12)
    · obtain ⟨a0, s0⟩ := sk_nat false hk hn
      obtain ⟨a1, s1⟩ := sk_nat true hk hn
      rw [a0, s0] at ek0
      rw [a1, s1] at ek1
      clear hn
      cases b
      · skip
        go_wp2_with fail
        go_call (spellKey_any _ _ _) as e c2 ⟨rfl, hb⟩
        replace hB := below_pure (w := w) (by go_grown) hb
        clear hb; replace hsz := hB.size
        go_wp2_with fail
        go_call (specSpellKey_any _ _ _) as e c3 ⟨rfl, hb⟩
        have k0 : Blk c3 (c2.heap.size) 25 #[.int .i64 (nst (f % 12)), .int .i64 0, .int .i64 (skO f)] := Blk.pure (by repeat' (first | (with_reducible assumption) | (with_reducible exact Blk.new _ _ _) | (with_reducible exact Blk.new' (by simp)) | (with_reducible refine Blk.alloc ?_ _) | (with_reducible refine Blk.drew ?_) | (with_reducible refine Blk.drewN ?_ _) | (with_reducible refine Blk.ne ?_ ?_ _) | omega | (simp; omega))) hb
        replace hB := below_pure (w := w) (by go_grown) hb
        clear hb; replace hsz := hB.size
        have k0_c0 : c3.cell? ⟨c2.heap.size, 0, none⟩ = some (.int .i64 (nst (f % 12))) := Blk.get k0 rfl
        have k0_f0 : c3.frozen? ⟨c2.heap.size, 0, none⟩ = false := Blk.frozen k0 0
        have k0_c1 : c3.cell? ⟨c2.heap.size, 1, none⟩ = some (.int .i64 0) := Blk.get k0 rfl
        have k0_f1 : c3.frozen? ⟨c2.heap.size, 1, none⟩ = false := Blk.frozen k0 1
        have k0_c2 : c3.cell? ⟨c2.heap.size, 2, none⟩ = some (.int .i64 (skO f)) := Blk.get k0 rfl
        have k0_f2 : c3.frozen? ⟨c2.heap.size, 2, none⟩ = false := Blk.frozen k0 2
        have k0_z : c2.heap.size < c3.heap.size := Blk.lt k0
        go_wp2_with fail
        go_call (spellKey_any _ _ _) as e c4 ⟨rfl, hb⟩
        replace k0 : Blk c4 (c2.heap.size) 25 #[.int .i64 (nst (f % 12)), .int .i64 0, .int .i64 (skO f)] := Blk.pure (by repeat' (first | (with_reducible assumption) | (with_reducible exact Blk.new _ _ _) | (with_reducible exact Blk.new' (by simp)) | (with_reducible refine Blk.alloc ?_ _) | (with_reducible refine Blk.drew ?_) | (with_reducible refine Blk.drewN ?_ _) | (with_reducible refine Blk.ne ?_ ?_ _) | omega | (simp; omega))) hb
        have k1 : Blk c4 (c3.heap.size) 25 #[.int .i64 (nst (f % 12)), .int .i64 0, .int .i64 (skO f)] := Blk.pure (by repeat' (first | (with_reducible assumption) | (with_reducible exact Blk.new _ _ _) | (with_reducible exact Blk.new' (by simp)) | (with_reducible refine Blk.alloc ?_ _) | (with_reducible refine Blk.drew ?_) | (with_reducible refine Blk.drewN ?_ _) | (with_reducible refine Blk.ne ?_ ?_ _) | omega | (simp; omega))) hb
        replace hB := below_pure (w := w) (by go_grown) hb
        clear hb; replace hsz := hB.size
        clear k0_c0 k0_f0 k0_c1 k0_f1 k0_c2 k0_f2 k0_z
        have k0_c0 : c4.cell? ⟨c2.heap.size, 0, none⟩ = some (.int .i64 (nst (f % 12))) := Blk.get k0 rfl
        have k0_f0 : c4.frozen? ⟨c2.heap.size, 0, none⟩ = false := Blk.frozen k0 0
        have k0_c1 : c4.cell? ⟨c2.heap.size, 1, none⟩ = some (.int .i64 0) := Blk.get k0 rfl
        have k0_f1 : c4.frozen? ⟨c2.heap.size, 1, none⟩ = false := Blk.frozen k0 1
        have k0_c2 : c4.cell? ⟨c2.heap.size, 2, none⟩ = some (.int .i64 (skO f)) := Blk.get k0 rfl
        have k0_f2 : c4.frozen? ⟨c2.heap.size, 2, none⟩ = false := Blk.frozen k0 2
        have k0_z : c2.heap.size < c4.heap.size := Blk.lt k0
        have k1_c0 : c4.cell? ⟨c3.heap.size, 0, none⟩ = some (.int .i64 (nst (f % 12))) := Blk.get k1 rfl
        have k1_f0 : c4.frozen? ⟨c3.heap.size, 0, none⟩ = false := Blk.frozen k1 0
        have k1_c1 : c4.cell? ⟨c3.heap.size, 1, none⟩ = some (.int .i64 0) := Blk.get k1 rfl
        have k1_f1 : c4.frozen? ⟨c3.heap.size, 1, none⟩ = false := Blk.frozen k1 1
        have k1_c2 : c4.cell? ⟨c3.heap.size, 2, none⟩ = some (.int .i64 (skO f)) := Blk.get k1 rfl
        have k1_f2 : c4.frozen? ⟨c3.heap.size, 2, none⟩ = false := Blk.frozen k1 2
        have k1_z : c3.heap.size < c4.heap.size := Blk.lt k1
        go_wp2_with fail
        go_call (pitchKey_any _ _ _ _) as e c5 ⟨rfl, hb⟩
        replace k0 : Blk c5 (c2.heap.size) 25 #[.int .i64 (nst (f % 12)), .int .i64 0, .int .i64 (skO f)] := Blk.pure (by repeat' (first | (with_reducible assumption) | (with_reducible exact Blk.new _ _ _) | (with_reducible exact Blk.new' (by simp)) | (with_reducible refine Blk.alloc ?_ _) | (with_reducible refine Blk.drew ?_) | (with_reducible refine Blk.drewN ?_ _) | (with_reducible refine Blk.ne ?_ ?_ _) | omega | (simp; omega))) hb
        replace k1 : Blk c5 (c3.heap.size) 25 #[.int .i64 (nst (f % 12)), .int .i64 0, .int .i64 (skO f)] := Blk.pure (by repeat' (first | (with_reducible assumption) | (with_reducible exact Blk.new _ _ _) | (with_reducible exact Blk.new' (by simp)) | (with_reducible refine Blk.alloc ?_ _) | (with_reducible refine Blk.drew ?_) | (with_reducible refine Blk.drewN ?_ _) | (with_reducible refine Blk.ne ?_ ?_ _) | omega | (simp; omega))) hb
        have k2 : Blk c5 (c4.heap.size) 25 #[.int .i64 (nst (f % 12)), .int .i64 0, .int .i64 (skO f)] := Blk.pure (by repeat' (first | (with_reducible assumption) | (with_reducible exact Blk.new _ _ _) | (with_reducible exact Blk.new' (by simp)) | (with_reducible refine Blk.alloc ?_ _) | (with_reducible refine Blk.drew ?_) | (with_reducible refine Blk.drewN ?_ _) | (with_reducible refine Blk.ne ?_ ?_ _) | omega | (simp; omega))) hb
        replace hB := below_pure (w := w) (by go_grown) hb
        clear hb; replace hsz := hB.size
        clear k0_c0 k0_f0 k0_c1 k0_f1 k0_c2 k0_f2 k0_z k1_c0 k1_f0 k1_c1 k1_f1 k1_c2 k1_f2 k1_z
        have k0_c0 : c5.cell? ⟨c2.heap.size, 0, none⟩ = some (.int .i64 (nst (f % 12))) := Blk.get k0 rfl
        have k0_f0 : c5.frozen? ⟨c2.heap.size, 0, none⟩ = false := Blk.frozen k0 0
        have k0_c1 : c5.cell? ⟨c2.heap.size, 1, none⟩ = some (.int .i64 0) := Blk.get k0 rfl
        have k0_f1 : c5.frozen? ⟨c2.heap.size, 1, none⟩ = false := Blk.frozen k0 1
        have k0_c2 : c5.cell? ⟨c2.heap.size, 2, none⟩ = some (.int .i64 (skO f)) := Blk.get k0 rfl
        have k0_f2 : c5.frozen? ⟨c2.heap.size, 2, none⟩ = false := Blk.frozen k0 2
        have k0_z : c2.heap.size < c5.heap.size := Blk.lt k0
        have k1_c0 : c5.cell? ⟨c3.heap.size, 0, none⟩ = some (.int .i64 (nst (f % 12))) := Blk.get k1 rfl
        have k1_f0 : c5.frozen? ⟨c3.heap.size, 0, none⟩ = false := Blk.frozen k1 0
        have k1_c1 : c5.cell? ⟨c3.heap.size, 1, none⟩ = some (.int .i64 0) := Blk.get k1 rfl
        have k1_f1 : c5.frozen? ⟨c3.heap.size, 1, none⟩ = false := Blk.frozen k1 1
        have k1_c2 : c5.cell? ⟨c3.heap.size, 2, none⟩ = some (.int .i64 (skO f)) := Blk.get k1 rfl
        have k1_f2 : c5.frozen? ⟨c3.heap.size, 2, none⟩ = false := Blk.frozen k1 2
        have k1_z : c3.heap.size < c5.heap.size := Blk.lt k1
        have k2_c0 : c5.cell? ⟨c4.heap.size, 0, none⟩ = some (.int .i64 (nst (f % 12))) := Blk.get k2 rfl
        have k2_f0 : c5.frozen? ⟨c4.heap.size, 0, none⟩ = false := Blk.frozen k2 0
        have k2_c1 : c5.cell? ⟨c4.heap.size, 1, none⟩ = some (.int .i64 0) := Blk.get k2 rfl
        have k2_f1 : c5.frozen? ⟨c4.heap.size, 1, none⟩ = false := Blk.frozen k2 1
        have k2_c2 : c5.cell? ⟨c4.heap.size, 2, none⟩ = some (.int .i64 (skO f)) := Blk.get k2 rfl
        have k2_f2 : c5.frozen? ⟨c4.heap.size, 2, none⟩ = false := Blk.frozen k2 2
        have k2_z : c4.heap.size < c5.heap.size := Blk.lt k2
        go_wp2
        go_ret
        exact ⟨rfl, by go_grown⟩
      · skip
        go_wp2_with fail
        go_call (spellKey_any _ _ _) as e c2 ⟨rfl, hb⟩
        replace hB := below_pure (w := w) (by go_grown) hb
        clear hb; replace hsz := hB.size
        go_wp2_with fail
        go_call (specSpellKey_any _ _ _) as e c3 ⟨rfl, hb⟩
        have k0 : Blk c3 (c2.heap.size) 25 #[.int .i64 (nst (f % 12)), .int .i64 0, .int .i64 (skO f)] := Blk.pure (by repeat' (first | (with_reducible assumption) | (with_reducible exact Blk.new _ _ _) | (with_reducible exact Blk.new' (by simp)) | (with_reducible refine Blk.alloc ?_ _) | (with_reducible refine Blk.drew ?_) | (with_reducible refine Blk.drewN ?_ _) | (with_reducible refine Blk.ne ?_ ?_ _) | omega | (simp; omega))) hb
        replace hB := below_pure (w := w) (by go_grown) hb
        clear hb; replace hsz := hB.size
        have k0_c0 : c3.cell? ⟨c2.heap.size, 0, none⟩ = some (.int .i64 (nst (f % 12))) := Blk.get k0 rfl
        have k0_f0 : c3.frozen? ⟨c2.heap.size, 0, none⟩ = false := Blk.frozen k0 0
        have k0_c1 : c3.cell? ⟨c2.heap.size, 1, none⟩ = some (.int .i64 0) := Blk.get k0 rfl
        have k0_f1 : c3.frozen? ⟨c2.heap.size, 1, none⟩ = false := Blk.frozen k0 1
        have k0_c2 : c3.cell? ⟨c2.heap.size, 2, none⟩ = some (.int .i64 (skO f)) := Blk.get k0 rfl
        have k0_f2 : c3.frozen? ⟨c2.heap.size, 2, none⟩ = false := Blk.frozen k0 2
        have k0_z : c2.heap.size < c3.heap.size := Blk.lt k0
        go_wp2_with fail
        go_call (spellKey_any _ _ _) as e c4 ⟨rfl, hb⟩
        replace k0 : Blk c4 (c2.heap.size) 25 #[.int .i64 (nst (f % 12)), .int .i64 0, .int .i64 (skO f)] := Blk.pure (by repeat' (first | (with_reducible assumption) | (with_reducible exact Blk.new _ _ _) | (with_reducible exact Blk.new' (by simp)) | (with_reducible refine Blk.alloc ?_ _) | (with_reducible refine Blk.drew ?_) | (with_reducible refine Blk.drewN ?_ _) | (with_reducible refine Blk.ne ?_ ?_ _) | omega | (simp; omega))) hb
        have k1 : Blk c4 (c3.heap.size) 25 #[.int .i64 (nst (f % 12)), .int .i64 0, .int .i64 (skO f)] := Blk.pure (by repeat' (first | (with_reducible assumption) | (with_reducible exact Blk.new _ _ _) | (with_reducible exact Blk.new' (by simp)) | (with_reducible refine Blk.alloc ?_ _) | (with_reducible refine Blk.drew ?_) | (with_reducible refine Blk.drewN ?_ _) | (with_reducible refine Blk.ne ?_ ?_ _) | omega | (simp; omega))) hb
        replace hB := below_pure (w := w) (by go_grown) hb
        clear hb; replace hsz := hB.size
        clear k0_c0 k0_f0 k0_c1 k0_f1 k0_c2 k0_f2 k0_z
        have k0_c0 : c4.cell? ⟨c2.heap.size, 0, none⟩ = some (.int .i64 (nst (f % 12))) := Blk.get k0 rfl
        have k0_f0 : c4.frozen? ⟨c2.heap.size, 0, none⟩ = false := Blk.frozen k0 0
        have k0_c1 : c4.cell? ⟨c2.heap.size, 1, none⟩ = some (.int .i64 0) := Blk.get k0 rfl
        have k0_f1 : c4.frozen? ⟨c2.heap.size, 1, none⟩ = false := Blk.frozen k0 1
        have k0_c2 : c4.cell? ⟨c2.heap.size, 2, none⟩ = some (.int .i64 (skO f)) := Blk.get k0 rfl
        have k0_f2 : c4.frozen? ⟨c2.heap.size, 2, none⟩ = false := Blk.frozen k0 2
        have k0_z : c2.heap.size < c4.heap.size := Blk.lt k0
        have k1_c0 : c4.cell? ⟨c3.heap.size, 0, none⟩ = some (.int .i64 (nst (f % 12))) := Blk.get k1 rfl
        have k1_f0 : c4.frozen? ⟨c3.heap.size, 0, none⟩ = false := Blk.frozen k1 0
        have k1_c1 : c4.cell? ⟨c3.heap.size, 1, none⟩ = some (.int .i64 0) := Blk.get k1 rfl
        have k1_f1 : c4.frozen? ⟨c3.heap.size, 1, none⟩ = false := Blk.frozen k1 1
        have k1_c2 : c4.cell? ⟨c3.heap.size, 2, none⟩ = some (.int .i64 (skO f)) := Blk.get k1 rfl
        have k1_f2 : c4.frozen? ⟨c3.heap.size, 2, none⟩ = false := Blk.frozen k1 2
        have k1_z : c3.heap.size < c4.heap.size := Blk.lt k1
        go_wp2_with fail
        go_call (pitchKey_any _ _ _ _) as e c5 ⟨rfl, hb⟩
        replace k0 : Blk c5 (c2.heap.size) 25 #[.int .i64 (nst (f % 12)), .int .i64 0, .int .i64 (skO f)] := Blk.pure (by repeat' (first | (with_reducible assumption) | (with_reducible exact Blk.new _ _ _) | (with_reducible exact Blk.new' (by simp)) | (with_reducible refine Blk.alloc ?_ _) | (with_reducible refine Blk.drew ?_) | (with_reducible refine Blk.drewN ?_ _) | (with_reducible refine Blk.ne ?_ ?_ _) | omega | (simp; omega))) hb
        replace k1 : Blk c5 (c3.heap.size) 25 #[.int .i64 (nst (f % 12)), .int .i64 0, .int .i64 (skO f)] := Blk.pure (by repeat' (first | (with_reducible assumption) | (with_reducible exact Blk.new _ _ _) | (with_reducible exact Blk.new' (by simp)) | (with_reducible refine Blk.alloc ?_ _) | (with_reducible refine Blk.drew ?_) | (with_reducible refine Blk.drewN ?_ _) | (with_reducible refine Blk.ne ?_ ?_ _) | omega | (simp; omega))) hb
        have k2 : Blk c5 (c4.heap.size) 25 #[.int .i64 (nst (f % 12)), .int .i64 0, .int .i64 (skO f)] := Blk.pure (by repeat' (first | (with_reducible assumption) | (with_reducible exact Blk.new _ _ _) | (with_reducible exact Blk.new' (by simp)) | (with_reducible refine Blk.alloc ?_ _) | (with_reducible refine Blk.drew ?_) | (with_reducible refine Blk.drewN ?_ _) | (with_reducible refine Blk.ne ?_ ?_ _) | omega | (simp; omega))) hb
        replace hB := below_pure (w := w) (by go_grown) hb
        clear hb; replace hsz := hB.size
        clear k0_c0 k0_f0 k0_c1 k0_f1 k0_c2 k0_f2 k0_z k1_c0 k1_f0 k1_c1 k1_f1 k1_c2 k1_f2 k1_z
        have k0_c0 : c5.cell? ⟨c2.heap.size, 0, none⟩ = some (.int .i64 (nst (f % 12))) := Blk.get k0 rfl
        have k0_f0 : c5.frozen? ⟨c2.heap.size, 0, none⟩ = false := Blk.frozen k0 0
        have k0_c1 : c5.cell? ⟨c2.heap.size, 1, none⟩ = some (.int .i64 0) := Blk.get k0 rfl
        have k0_f1 : c5.frozen? ⟨c2.heap.size, 1, none⟩ = false := Blk.frozen k0 1
        have k0_c2 : c5.cell? ⟨c2.heap.size, 2, none⟩ = some (.int .i64 (skO f)) := Blk.get k0 rfl
        have k0_f2 : c5.frozen? ⟨c2.heap.size, 2, none⟩ = false := Blk.frozen k0 2
        have k0_z : c2.heap.size < c5.heap.size := Blk.lt k0
        have k1_c0 : c5.cell? ⟨c3.heap.size, 0, none⟩ = some (.int .i64 (nst (f % 12))) := Blk.get k1 rfl
        have k1_f0 : c5.frozen? ⟨c3.heap.size, 0, none⟩ = false := Blk.frozen k1 0
        have k1_c1 : c5.cell? ⟨c3.heap.size, 1, none⟩ = some (.int .i64 0) := Blk.get k1 rfl
        have k1_f1 : c5.frozen? ⟨c3.heap.size, 1, none⟩ = false := Blk.frozen k1 1
        have k1_c2 : c5.cell? ⟨c3.heap.size, 2, none⟩ = some (.int .i64 (skO f)) := Blk.get k1 rfl
        have k1_f2 : c5.frozen? ⟨c3.heap.size, 2, none⟩ = false := Blk.frozen k1 2
        have k1_z : c3.heap.size < c5.heap.size := Blk.lt k1
        have k2_c0 : c5.cell? ⟨c4.heap.size, 0, none⟩ = some (.int .i64 (nst (f % 12))) := Blk.get k2 rfl
        have k2_f0 : c5.frozen? ⟨c4.heap.size, 0, none⟩ = false := Blk.frozen k2 0
        have k2_c1 : c5.cell? ⟨c4.heap.size, 1, none⟩ = some (.int .i64 0) := Blk.get k2 rfl
        have k2_f1 : c5.frozen? ⟨c4.heap.size, 1, none⟩ = false := Blk.frozen k2 1
        have k2_c2 : c5.cell? ⟨c4.heap.size, 2, none⟩ = some (.int .i64 (skO f)) := Blk.get k2 rfl
        have k2_f2 : c5.frozen? ⟨c4.heap.size, 2, none⟩ = false := Blk.frozen k2 2
        have k2_z : c4.heap.size < c5.heap.size := Blk.lt k2
        go_wp2
        go_ret
        exact ⟨rfl, by go_grown⟩
    · have a0 := sk_alt false hk hn
      have a1 := sk_alt true hk hn
      simp only [sgn, if_false, Bool.false_eq_true] at a0
      simp only [sgn, if_true] at a1
      rw [a0] at ek0
      rw [a1] at ek1
      clear hn
      cases b
      · skip
        go_wp2_with fail
        go_call (spellKey_any _ _ _) as e c2 ⟨rfl, hb⟩
        replace hB := below_pure (w := w) (by go_grown) hb
        clear hb; replace hsz := hB.size
        go_wp2_with fail
        go_call (specSpellKey_any _ _ _) as e c3 ⟨rfl, hb⟩
        have k0 : Blk c3 (c2.heap.size) 25 #[.int .i64 (skS f false), .int .i64 1, .int .i64 (skO f)] := Blk.pure (by repeat' (first | (with_reducible assumption) | (with_reducible exact Blk.new _ _ _) | (with_reducible exact Blk.new' (by simp)) | (with_reducible refine Blk.alloc ?_ _) | (with_reducible refine Blk.drew ?_) | (with_reducible refine Blk.drewN ?_ _) | (with_reducible refine Blk.ne ?_ ?_ _) | omega | (simp; omega))) hb
        replace hB := below_pure (w := w) (by go_grown) hb
        clear hb; replace hsz := hB.size
        have k0_c0 : c3.cell? ⟨c2.heap.size, 0, none⟩ = some (.int .i64 (skS f false)) := Blk.get k0 rfl
        have k0_f0 : c3.frozen? ⟨c2.heap.size, 0, none⟩ = false := Blk.frozen k0 0
        have k0_c1 : c3.cell? ⟨c2.heap.size, 1, none⟩ = some (.int .i64 1) := Blk.get k0 rfl
        have k0_f1 : c3.frozen? ⟨c2.heap.size, 1, none⟩ = false := Blk.frozen k0 1
        have k0_c2 : c3.cell? ⟨c2.heap.size, 2, none⟩ = some (.int .i64 (skO f)) := Blk.get k0 rfl
        have k0_f2 : c3.frozen? ⟨c2.heap.size, 2, none⟩ = false := Blk.frozen k0 2
        have k0_z : c2.heap.size < c3.heap.size := Blk.lt k0
        go_wp2_with fail
        go_call (spellKey_any _ _ _) as e c4 ⟨rfl, hb⟩
        replace k0 : Blk c4 (c2.heap.size) 25 #[.int .i64 (skS f false), .int .i64 1, .int .i64 (skO f)] := Blk.pure (by repeat' (first | (with_reducible assumption) | (with_reducible exact Blk.new _ _ _) | (with_reducible exact Blk.new' (by simp)) | (with_reducible refine Blk.alloc ?_ _) | (with_reducible refine Blk.drew ?_) | (with_reducible refine Blk.drewN ?_ _) | (with_reducible refine Blk.ne ?_ ?_ _) | omega | (simp; omega))) hb
        have k1 : Blk c4 (c3.heap.size) 25 #[.int .i64 (skS f false), .int .i64 1, .int .i64 (skO f)] := Blk.pure (by repeat' (first | (with_reducible assumption) | (with_reducible exact Blk.new _ _ _) | (with_reducible exact Blk.new' (by simp)) | (with_reducible refine Blk.alloc ?_ _) | (with_reducible refine Blk.drew ?_) | (with_reducible refine Blk.drewN ?_ _) | (with_reducible refine Blk.ne ?_ ?_ _) | omega | (simp; omega))) hb
        replace hB := below_pure (w := w) (by go_grown) hb
        clear hb; replace hsz := hB.size
        clear k0_c0 k0_f0 k0_c1 k0_f1 k0_c2 k0_f2 k0_z
        have k0_c0 : c4.cell? ⟨c2.heap.size, 0, none⟩ = some (.int .i64 (skS f false)) := Blk.get k0 rfl
        have k0_f0 : c4.frozen? ⟨c2.heap.size, 0, none⟩ = false := Blk.frozen k0 0
        have k0_c1 : c4.cell? ⟨c2.heap.size, 1, none⟩ = some (.int .i64 1) := Blk.get k0 rfl
        have k0_f1 : c4.frozen? ⟨c2.heap.size, 1, none⟩ = false := Blk.frozen k0 1
        have k0_c2 : c4.cell? ⟨c2.heap.size, 2, none⟩ = some (.int .i64 (skO f)) := Blk.get k0 rfl
        have k0_f2 : c4.frozen? ⟨c2.heap.size, 2, none⟩ = false := Blk.frozen k0 2
        have k0_z : c2.heap.size < c4.heap.size := Blk.lt k0
        have k1_c0 : c4.cell? ⟨c3.heap.size, 0, none⟩ = some (.int .i64 (skS f false)) := Blk.get k1 rfl
        have k1_f0 : c4.frozen? ⟨c3.heap.size, 0, none⟩ = false := Blk.frozen k1 0
        have k1_c1 : c4.cell? ⟨c3.heap.size, 1, none⟩ = some (.int .i64 1) := Blk.get k1 rfl
        have k1_f1 : c4.frozen? ⟨c3.heap.size, 1, none⟩ = false := Blk.frozen k1 1
        have k1_c2 : c4.cell? ⟨c3.heap.size, 2, none⟩ = some (.int .i64 (skO f)) := Blk.get k1 rfl
        have k1_f2 : c4.frozen? ⟨c3.heap.size, 2, none⟩ = false := Blk.frozen k1 2
        have k1_z : c3.heap.size < c4.heap.size := Blk.lt k1
        go_wp2_with fail
        go_call (pitchKey_any _ _ _ _) as e c5 ⟨rfl, hb⟩
        replace k0 : Blk c5 (c2.heap.size) 25 #[.int .i64 (skS f false), .int .i64 1, .int .i64 (skO f)] := Blk.pure (by repeat' (first | (with_reducible assumption) | (with_reducible exact Blk.new _ _ _) | (with_reducible exact Blk.new' (by simp)) | (with_reducible refine Blk.alloc ?_ _) | (with_reducible refine Blk.drew ?_) | (with_reducible refine Blk.drewN ?_ _) | (with_reducible refine Blk.ne ?_ ?_ _) | omega | (simp; omega))) hb
        replace k1 : Blk c5 (c3.heap.size) 25 #[.int .i64 (skS f false), .int .i64 1, .int .i64 (skO f)] := Blk.pure (by repeat' (first | (with_reducible assumption) | (with_reducible exact Blk.new _ _ _) | (with_reducible exact Blk.new' (by simp)) | (with_reducible refine Blk.alloc ?_ _) | (with_reducible refine Blk.drew ?_) | (with_reducible refine Blk.drewN ?_ _) | (with_reducible refine Blk.ne ?_ ?_ _) | omega | (simp; omega))) hb
        have k2 : Blk c5 (c4.heap.size) 25 #[.int .i64 (skS f true), .int .i64 (-1), .int .i64 (skO f)] := Blk.pure (by repeat' (first | (with_reducible assumption) | (with_reducible exact Blk.new _ _ _) | (with_reducible exact Blk.new' (by simp)) | (with_reducible refine Blk.alloc ?_ _) | (with_reducible refine Blk.drew ?_) | (with_reducible refine Blk.drewN ?_ _) | (with_reducible refine Blk.ne ?_ ?_ _) | omega | (simp; omega))) hb
        replace hB := below_pure (w := w) (by go_grown) hb
        clear hb; replace hsz := hB.size
        clear k0_c0 k0_f0 k0_c1 k0_f1 k0_c2 k0_f2 k0_z k1_c0 k1_f0 k1_c1 k1_f1 k1_c2 k1_f2 k1_z
        have k0_c0 : c5.cell? ⟨c2.heap.size, 0, none⟩ = some (.int .i64 (skS f false)) := Blk.get k0 rfl
        have k0_f0 : c5.frozen? ⟨c2.heap.size, 0, none⟩ = false := Blk.frozen k0 0
        have k0_c1 : c5.cell? ⟨c2.heap.size, 1, none⟩ = some (.int .i64 1) := Blk.get k0 rfl
        have k0_f1 : c5.frozen? ⟨c2.heap.size, 1, none⟩ = false := Blk.frozen k0 1
        have k0_c2 : c5.cell? ⟨c2.heap.size, 2, none⟩ = some (.int .i64 (skO f)) := Blk.get k0 rfl
        have k0_f2 : c5.frozen? ⟨c2.heap.size, 2, none⟩ = false := Blk.frozen k0 2
        have k0_z : c2.heap.size < c5.heap.size := Blk.lt k0
        have k1_c0 : c5.cell? ⟨c3.heap.size, 0, none⟩ = some (.int .i64 (skS f false)) := Blk.get k1 rfl
        have k1_f0 : c5.frozen? ⟨c3.heap.size, 0, none⟩ = false := Blk.frozen k1 0
        have k1_c1 : c5.cell? ⟨c3.heap.size, 1, none⟩ = some (.int .i64 1) := Blk.get k1 rfl
        have k1_f1 : c5.frozen? ⟨c3.heap.size, 1, none⟩ = false := Blk.frozen k1 1
        have k1_c2 : c5.cell? ⟨c3.heap.size, 2, none⟩ = some (.int .i64 (skO f)) := Blk.get k1 rfl
        have k1_f2 : c5.frozen? ⟨c3.heap.size, 2, none⟩ = false := Blk.frozen k1 2
        have k1_z : c3.heap.size < c5.heap.size := Blk.lt k1
        have k2_c0 : c5.cell? ⟨c4.heap.size, 0, none⟩ = some (.int .i64 (skS f true)) := Blk.get k2 rfl
        have k2_f0 : c5.frozen? ⟨c4.heap.size, 0, none⟩ = false := Blk.frozen k2 0
        have k2_c1 : c5.cell? ⟨c4.heap.size, 1, none⟩ = some (.int .i64 (-1)) := Blk.get k2 rfl
        have k2_f1 : c5.frozen? ⟨c4.heap.size, 1, none⟩ = false := Blk.frozen k2 1
        have k2_c2 : c5.cell? ⟨c4.heap.size, 2, none⟩ = some (.int .i64 (skO f)) := Blk.get k2 rfl
        have k2_f2 : c5.frozen? ⟨c4.heap.size, 2, none⟩ = false := Blk.frozen k2 2
        have k2_z : c4.heap.size < c5.heap.size := Blk.lt k2
        go_wp2
        go_ret
        exact ⟨rfl, by go_grown⟩
      · skip
        go_wp2_with fail
        go_call (spellKey_any _ _ _) as e c2 ⟨rfl, hb⟩
        replace hB := below_pure (w := w) (by go_grown) hb
        clear hb; replace hsz := hB.size
        go_wp2_with fail
        go_call (specSpellKey_any _ _ _) as e c3 ⟨rfl, hb⟩
        have k0 : Blk c3 (c2.heap.size) 25 #[.int .i64 (skS f true), .int .i64 (-1), .int .i64 (skO f)] := Blk.pure (by repeat' (first | (with_reducible assumption) | (with_reducible exact Blk.new _ _ _) | (with_reducible exact Blk.new' (by simp)) | (with_reducible refine Blk.alloc ?_ _) | (with_reducible refine Blk.drew ?_) | (with_reducible refine Blk.drewN ?_ _) | (with_reducible refine Blk.ne ?_ ?_ _) | omega | (simp; omega))) hb
        replace hB := below_pure (w := w) (by go_grown) hb
        clear hb; replace hsz := hB.size
        have k0_c0 : c3.cell? ⟨c2.heap.size, 0, none⟩ = some (.int .i64 (skS f true)) := Blk.get k0 rfl
        have k0_f0 : c3.frozen? ⟨c2.heap.size, 0, none⟩ = false := Blk.frozen k0 0
        have k0_c1 : c3.cell? ⟨c2.heap.size, 1, none⟩ = some (.int .i64 (-1)) := Blk.get k0 rfl
        have k0_f1 : c3.frozen? ⟨c2.heap.size, 1, none⟩ = false := Blk.frozen k0 1
        have k0_c2 : c3.cell? ⟨c2.heap.size, 2, none⟩ = some (.int .i64 (skO f)) := Blk.get k0 rfl
        have k0_f2 : c3.frozen? ⟨c2.heap.size, 2, none⟩ = false := Blk.frozen k0 2
        have k0_z : c2.heap.size < c3.heap.size := Blk.lt k0
        go_wp2_with fail
        go_call (spellKey_any _ _ _) as e c4 ⟨rfl, hb⟩
        replace k0 : Blk c4 (c2.heap.size) 25 #[.int .i64 (skS f true), .int .i64 (-1), .int .i64 (skO f)] := Blk.pure (by repeat' (first | (with_reducible assumption) | (with_reducible exact Blk.new _ _ _) | (with_reducible exact Blk.new' (by simp)) | (with_reducible refine Blk.alloc ?_ _) | (with_reducible refine Blk.drew ?_) | (with_reducible refine Blk.drewN ?_ _) | (with_reducible refine Blk.ne ?_ ?_ _) | omega | (simp; omega))) hb
        have k1 : Blk c4 (c3.heap.size) 25 #[.int .i64 (skS f true), .int .i64 (-1), .int .i64 (skO f)] := Blk.pure (by repeat' (first | (with_reducible assumption) | (with_reducible exact Blk.new _ _ _) | (with_reducible exact Blk.new' (by simp)) | (with_reducible refine Blk.alloc ?_ _) | (with_reducible refine Blk.drew ?_) | (with_reducible refine Blk.drewN ?_ _) | (with_reducible refine Blk.ne ?_ ?_ _) | omega | (simp; omega))) hb
        replace hB := below_pure (w := w) (by go_grown) hb
        clear hb; replace hsz := hB.size
        clear k0_c0 k0_f0 k0_c1 k0_f1 k0_c2 k0_f2 k0_z
        have k0_c0 : c4.cell? ⟨c2.heap.size, 0, none⟩ = some (.int .i64 (skS f true)) := Blk.get k0 rfl
        have k0_f0 : c4.frozen? ⟨c2.heap.size, 0, none⟩ = false := Blk.frozen k0 0
        have k0_c1 : c4.cell? ⟨c2.heap.size, 1, none⟩ = some (.int .i64 (-1)) := Blk.get k0 rfl
        have k0_f1 : c4.frozen? ⟨c2.heap.size, 1, none⟩ = false := Blk.frozen k0 1
        have k0_c2 : c4.cell? ⟨c2.heap.size, 2, none⟩ = some (.int .i64 (skO f)) := Blk.get k0 rfl
        have k0_f2 : c4.frozen? ⟨c2.heap.size, 2, none⟩ = false := Blk.frozen k0 2
        have k0_z : c2.heap.size < c4.heap.size := Blk.lt k0
        have k1_c0 : c4.cell? ⟨c3.heap.size, 0, none⟩ = some (.int .i64 (skS f true)) := Blk.get k1 rfl
        have k1_f0 : c4.frozen? ⟨c3.heap.size, 0, none⟩ = false := Blk.frozen k1 0
        have k1_c1 : c4.cell? ⟨c3.heap.size, 1, none⟩ = some (.int .i64 (-1)) := Blk.get k1 rfl
        have k1_f1 : c4.frozen? ⟨c3.heap.size, 1, none⟩ = false := Blk.frozen k1 1
        have k1_c2 : c4.cell? ⟨c3.heap.size, 2, none⟩ = some (.int .i64 (skO f)) := Blk.get k1 rfl
        have k1_f2 : c4.frozen? ⟨c3.heap.size, 2, none⟩ = false := Blk.frozen k1 2
        have k1_z : c3.heap.size < c4.heap.size := Blk.lt k1
        go_wp2_with fail
        go_call (pitchKey_any _ _ _ _) as e c5 ⟨rfl, hb⟩
        replace k0 : Blk c5 (c2.heap.size) 25 #[.int .i64 (skS f true), .int .i64 (-1), .int .i64 (skO f)] := Blk.pure (by repeat' (first | (with_reducible assumption) | (with_reducible exact Blk.new _ _ _) | (with_reducible exact Blk.new' (by simp)) | (with_reducible refine Blk.alloc ?_ _) | (with_reducible refine Blk.drew ?_) | (with_reducible refine Blk.drewN ?_ _) | (with_reducible refine Blk.ne ?_ ?_ _) | omega | (simp; omega))) hb
        replace k1 : Blk c5 (c3.heap.size) 25 #[.int .i64 (skS f true), .int .i64 (-1), .int .i64 (skO f)] := Blk.pure (by repeat' (first | (with_reducible assumption) | (with_reducible exact Blk.new _ _ _) | (with_reducible exact Blk.new' (by simp)) | (with_reducible refine Blk.alloc ?_ _) | (with_reducible refine Blk.drew ?_) | (with_reducible refine Blk.drewN ?_ _) | (with_reducible refine Blk.ne ?_ ?_ _) | omega | (simp; omega))) hb
        have k2 : Blk c5 (c4.heap.size) 25 #[.int .i64 (skS f false), .int .i64 1, .int .i64 (skO f)] := Blk.pure (by repeat' (first | (with_reducible assumption) | (with_reducible exact Blk.new _ _ _) | (with_reducible exact Blk.new' (by simp)) | (with_reducible refine Blk.alloc ?_ _) | (with_reducible refine Blk.drew ?_) | (with_reducible refine Blk.drewN ?_ _) | (with_reducible refine Blk.ne ?_ ?_ _) | omega | (simp; omega))) hb
        replace hB := below_pure (w := w) (by go_grown) hb
        clear hb; replace hsz := hB.size
        clear k0_c0 k0_f0 k0_c1 k0_f1 k0_c2 k0_f2 k0_z k1_c0 k1_f0 k1_c1 k1_f1 k1_c2 k1_f2 k1_z
        have k0_c0 : c5.cell? ⟨c2.heap.size, 0, none⟩ = some (.int .i64 (skS f true)) := Blk.get k0 rfl
        have k0_f0 : c5.frozen? ⟨c2.heap.size, 0, none⟩ = false := Blk.frozen k0 0
        have k0_c1 : c5.cell? ⟨c2.heap.size, 1, none⟩ = some (.int .i64 (-1)) := Blk.get k0 rfl
        have k0_f1 : c5.frozen? ⟨c2.heap.size, 1, none⟩ = false := Blk.frozen k0 1
        have k0_c2 : c5.cell? ⟨c2.heap.size, 2, none⟩ = some (.int .i64 (skO f)) := Blk.get k0 rfl
        have k0_f2 : c5.frozen? ⟨c2.heap.size, 2, none⟩ = false := Blk.frozen k0 2
        have k0_z : c2.heap.size < c5.heap.size := Blk.lt k0
        have k1_c0 : c5.cell? ⟨c3.heap.size, 0, none⟩ = some (.int .i64 (skS f true)) := Blk.get k1 rfl
        have k1_f0 : c5.frozen? ⟨c3.heap.size, 0, none⟩ = false := Blk.frozen k1 0
        have k1_c1 : c5.cell? ⟨c3.heap.size, 1, none⟩ = some (.int .i64 (-1)) := Blk.get k1 rfl
        have k1_f1 : c5.frozen? ⟨c3.heap.size, 1, none⟩ = false := Blk.frozen k1 1
        have k1_c2 : c5.cell? ⟨c3.heap.size, 2, none⟩ = some (.int .i64 (skO f)) := Blk.get k1 rfl
        have k1_f2 : c5.frozen? ⟨c3.heap.size, 2, none⟩ = false := Blk.frozen k1 2
        have k1_z : c3.heap.size < c5.heap.size := Blk.lt k1
        have k2_c0 : c5.cell? ⟨c4.heap.size, 0, none⟩ = some (.int .i64 (skS f false)) := Blk.get k2 rfl
        have k2_f0 : c5.frozen? ⟨c4.heap.size, 0, none⟩ = false := Blk.frozen k2 0
        have k2_c1 : c5.cell? ⟨c4.heap.size, 1, none⟩ = some (.int .i64 1) := Blk.get k2 rfl
        have k2_f1 : c5.frozen? ⟨c4.heap.size, 1, none⟩ = false := Blk.frozen k2 1
        have k2_c2 : c5.cell? ⟨c4.heap.size, 2, none⟩ = some (.int .i64 (skO f)) := Blk.get k2 rfl
        have k2_f2 : c5.frozen? ⟨c4.heap.size, 2, none⟩ = false := Blk.frozen k2 2
        have k2_z : c4.heap.size < c5.heap.size := Blk.lt k2
        go_wp2
        go_ret
        exact ⟨rfl, by go_grown⟩
end Go.Proofs.Ytgogpjlemaajeaa

/- The walk of the law FnTicksOf: it returns true, and nothing that was there turns. No condition. -/
import Derived.Test.YtgbnaimkpnoeoaaDx
import Derived.Test.YtgbnaimkpnoeoaaAl
namespace Go.Proofs.Ytgbnaimkpnoeoaa
open Go.RowKit

theorem valB_cases {b d t : Int} (h : valB b d t = true) : (b = 1 ∨ b = 2 ∨ b = 4 ∨ b = 8 ∨ b = 16) ∧ (d = 0 ∨ d = 1 ∨ d = 2) ∧ (t = 1 ∨ t = 3) := by
  unfold valB at h
  rw [Bool.and_eq_true, Bool.and_eq_true] at h
  obtain ⟨⟨h1, h2⟩, h3⟩ := h
  have := inR_t h2
  exact ⟨base_cases h1, by omega, tup_cases h3⟩
theorem tick_facts {b d t : Int} (h : valB b d t = true) : 1 ≤ b ∧ b ≤ 16 ∧ 8 ≤ tick b d t ∧ tick b d t ≤ 336 ∧
    (b ≠ 16 → valB (2 * b) d t = true ∧ 2 * tick (2 * b) d t = tick b d t) ∧ (t ≠ 1 → valB b d 1 = true ∧ 3 * tick b d t = 2 * tick b d 1) := by
  obtain ⟨hb, hd, ht⟩ := valB_cases h
  clear h
  rcases hb with rfl | rfl | rfl | rfl | rfl <;> rcases hd with rfl | rfl | rfl <;> rcases ht with rfl | rfl <;> decide

set_option maxHeartbeats 2000000 in
set_option maxRecDepth 100000 in
theorem fnTicksOf_walk (a : Option Addr) (len cap : Nat) (w : World) (hC : Code' w a len cap) :
    Calls Try.prog 9 #[.slice a len cap] w (Gives (.bool true) w) := by
  by_cases hlen : 1048576 < len
  · have hcap : len ≤ 9223372036854775807 := by have h1 := hC.2.1; have h2 := hC.2.2; unfold maxLen at h2; omega
    go_enter Try.func9, Try.ntmps9
    go_wp2
    go_ret
    exact ⟨rfl, by go_grown⟩
  have hlen' : len ≤ 1048576 := by omega
  have HC := Lib.hid hC
  clear hC
  go_enter Try.func9, Try.ntmps9
  go_wp2_with fail
  refine (drawTicksOf_any _ _ _ _ HC.out hlen').mono ?_
  rintro e c1 ⟨b, d, t, rfl, hb⟩
  have hB : Below w.heap.size w c1 := by have h := below_pure (w := w) (by go_grown) hb; exact h
  have hsz := hB.size
  clear hb HC
  cases hv : valB b d t
  · have ev := tickV_f hv
    go_wp2_with fail
    go_call (ticksOf_any _ _ _ _) as e c2 ⟨rfl, hb⟩
    have k0 : Blk c2 (c1.heap.size) 26 #[.int .i64 b, .int .i64 d, .int .i64 t] := Blk.pure (by repeat' (first | (with_reducible assumption) | (with_reducible exact Blk.new _ _ _) | (with_reducible exact Blk.new' (by simp)) | (with_reducible refine Blk.alloc ?_ _) | (with_reducible refine Blk.drew ?_) | (with_reducible refine Blk.drewN ?_ _) | (with_reducible refine Blk.ne ?_ ?_ _) | omega | (simp; omega))) hb
    replace hB := below_pure (w := w) (by go_grown) hb
    clear hb; replace hsz := hB.size
    have k0_c0 : c2.cell? ⟨c1.heap.size, 0, none⟩ = some (.int .i64 b) := Blk.get k0 rfl
    have k0_f0 : c2.frozen? ⟨c1.heap.size, 0, none⟩ = false := Blk.frozen k0 0
    have k0_c1 : c2.cell? ⟨c1.heap.size, 1, none⟩ = some (.int .i64 d) := Blk.get k0 rfl
    have k0_f1 : c2.frozen? ⟨c1.heap.size, 1, none⟩ = false := Blk.frozen k0 1
    have k0_c2 : c2.cell? ⟨c1.heap.size, 2, none⟩ = some (.int .i64 t) := Blk.get k0 rfl
    have k0_f2 : c2.frozen? ⟨c1.heap.size, 2, none⟩ = false := Blk.frozen k0 2
    have k0_z : c1.heap.size < c2.heap.size := Blk.lt k0
    go_wp2_with fail
    go_call (specTicksOf_any _ _ _ _) as e c3 ⟨rfl, hb⟩
    replace k0 : Blk c3 (c1.heap.size) 26 #[.int .i64 b, .int .i64 d, .int .i64 t] := Blk.pure (by repeat' (first | (with_reducible assumption) | (with_reducible exact Blk.new _ _ _) | (with_reducible exact Blk.new' (by simp)) | (with_reducible refine Blk.alloc ?_ _) | (with_reducible refine Blk.drew ?_) | (with_reducible refine Blk.drewN ?_ _) | (with_reducible refine Blk.ne ?_ ?_ _) | omega | (simp; omega))) hb
    replace hB := below_pure (w := w) (by go_grown) hb
    clear hb; replace hsz := hB.size
    clear k0_c0 k0_f0 k0_c1 k0_f1 k0_c2 k0_f2 k0_z
    have k0_c0 : c3.cell? ⟨c1.heap.size, 0, none⟩ = some (.int .i64 b) := Blk.get k0 rfl
    have k0_f0 : c3.frozen? ⟨c1.heap.size, 0, none⟩ = false := Blk.frozen k0 0
    have k0_c1 : c3.cell? ⟨c1.heap.size, 1, none⟩ = some (.int .i64 d) := Blk.get k0 rfl
    have k0_f1 : c3.frozen? ⟨c1.heap.size, 1, none⟩ = false := Blk.frozen k0 1
    have k0_c2 : c3.cell? ⟨c1.heap.size, 2, none⟩ = some (.int .i64 t) := Blk.get k0 rfl
    have k0_f2 : c3.frozen? ⟨c1.heap.size, 2, none⟩ = false := Blk.frozen k0 2
    have k0_z : c1.heap.size < c3.heap.size := Blk.lt k0
    go_wp2_with fail
    go_call (alive_any _) as e c4 ⟨rfl, hb⟩
    replace k0 : Blk c4 (c1.heap.size) 26 #[.int .i64 b, .int .i64 d, .int .i64 t] := Blk.pure (by repeat' (first | (with_reducible assumption) | (with_reducible exact Blk.new _ _ _) | (with_reducible exact Blk.new' (by simp)) | (with_reducible refine Blk.alloc ?_ _) | (with_reducible refine Blk.drew ?_) | (with_reducible refine Blk.drewN ?_ _) | (with_reducible refine Blk.ne ?_ ?_ _) | omega | (simp; omega))) hb
    replace hB := below_pure (w := w) (by go_grown) hb
    clear hb; replace hsz := hB.size
    clear k0_c0 k0_f0 k0_c1 k0_f1 k0_c2 k0_f2 k0_z
    have k0_c0 : c4.cell? ⟨c1.heap.size, 0, none⟩ = some (.int .i64 b) := Blk.get k0 rfl
    have k0_f0 : c4.frozen? ⟨c1.heap.size, 0, none⟩ = false := Blk.frozen k0 0
    have k0_c1 : c4.cell? ⟨c1.heap.size, 1, none⟩ = some (.int .i64 d) := Blk.get k0 rfl
    have k0_f1 : c4.frozen? ⟨c1.heap.size, 1, none⟩ = false := Blk.frozen k0 1
    have k0_c2 : c4.cell? ⟨c1.heap.size, 2, none⟩ = some (.int .i64 t) := Blk.get k0 rfl
    have k0_f2 : c4.frozen? ⟨c1.heap.size, 2, none⟩ = false := Blk.frozen k0 2
    have k0_z : c1.heap.size < c4.heap.size := Blk.lt k0
    go_wp2
    go_ret
    exact ⟨rfl, by go_grown⟩
  · obtain ⟨b1, b16, n1, n2, H2, H3⟩ := tick_facts hv
    have HT := fun W => ticksOf_any b d t W
    rw [tickV_t hv] at HT
    have HS := fun W => specTicksOf_any b d t W
    rw [tickV_t hv] at HS
    generalize tick b d t = n at *
    have HTh := Lib.hid HT
    have HSh := Lib.hid HS
    have H2h := Lib.hid H2
    have H3h := Lib.hid H3
    clear HT HS H2 H3 hv
    go_wp2_with fail
    go_call (HTh.out _) as e c2 ⟨rfl, hb⟩
    have k0 : Blk c2 (c1.heap.size) 26 #[.int .i64 b, .int .i64 d, .int .i64 t] := Blk.pure (by repeat' (first | (with_reducible assumption) | (with_reducible exact Blk.new _ _ _) | (with_reducible exact Blk.new' (by simp)) | (with_reducible refine Blk.alloc ?_ _) | (with_reducible refine Blk.drew ?_) | (with_reducible refine Blk.drewN ?_ _) | (with_reducible refine Blk.ne ?_ ?_ _) | omega | (simp; omega))) hb
    replace hB := below_pure (w := w) (by go_grown) hb
    clear hb; replace hsz := hB.size
    have k0_c0 : c2.cell? ⟨c1.heap.size, 0, none⟩ = some (.int .i64 b) := Blk.get k0 rfl
    have k0_f0 : c2.frozen? ⟨c1.heap.size, 0, none⟩ = false := Blk.frozen k0 0
    have k0_c1 : c2.cell? ⟨c1.heap.size, 1, none⟩ = some (.int .i64 d) := Blk.get k0 rfl
    have k0_f1 : c2.frozen? ⟨c1.heap.size, 1, none⟩ = false := Blk.frozen k0 1
    have k0_c2 : c2.cell? ⟨c1.heap.size, 2, none⟩ = some (.int .i64 t) := Blk.get k0 rfl
    have k0_f2 : c2.frozen? ⟨c1.heap.size, 2, none⟩ = false := Blk.frozen k0 2
    have k0_z : c1.heap.size < c2.heap.size := Blk.lt k0
    go_wp2_with fail
    go_call (HSh.out _) as e c3 ⟨rfl, hb⟩
    replace k0 : Blk c3 (c1.heap.size) 26 #[.int .i64 b, .int .i64 d, .int .i64 t] := Blk.pure (by repeat' (first | (with_reducible assumption) | (with_reducible exact Blk.new _ _ _) | (with_reducible exact Blk.new' (by simp)) | (with_reducible refine Blk.alloc ?_ _) | (with_reducible refine Blk.drew ?_) | (with_reducible refine Blk.drewN ?_ _) | (with_reducible refine Blk.ne ?_ ?_ _) | omega | (simp; omega))) hb
    replace hB := below_pure (w := w) (by go_grown) hb
    clear hb; replace hsz := hB.size
    clear k0_c0 k0_f0 k0_c1 k0_f1 k0_c2 k0_f2 k0_z
    have k0_c0 : c3.cell? ⟨c1.heap.size, 0, none⟩ = some (.int .i64 b) := Blk.get k0 rfl
    have k0_f0 : c3.frozen? ⟨c1.heap.size, 0, none⟩ = false := Blk.frozen k0 0
    have k0_c1 : c3.cell? ⟨c1.heap.size, 1, none⟩ = some (.int .i64 d) := Blk.get k0 rfl
    have k0_f1 : c3.frozen? ⟨c1.heap.size, 1, none⟩ = false := Blk.frozen k0 1
    have k0_c2 : c3.cell? ⟨c1.heap.size, 2, none⟩ = some (.int .i64 t) := Blk.get k0 rfl
    have k0_f2 : c3.frozen? ⟨c1.heap.size, 2, none⟩ = false := Blk.frozen k0 2
    have k0_z : c1.heap.size < c3.heap.size := Blk.lt k0
    by_cases h1 : t = 1
    · have h1b : (t == 1) = true := by simpa using h1
      clear h1
      by_cases h16 : b = 16
      · have h16b : (b == 16) = true := by simpa using h16
        clear h16
        go_wp2
        go_ret
        exact ⟨rfl, by go_grown⟩
      · skip
        have h16b : (b == 16) = false := by simpa using h16
        obtain ⟨g1, g2⟩ := H2h.out h16
        have HG := fun W => ticksOf_any (2 * b) d t W
        rw [tickV_t g1] at HG
        generalize tick (2 * b) d t = m at *
        have HGh := Lib.hid HG
        have m1 : 0 ≤ m := by omega
        have m2 : m ≤ 200 := by omega
        have m3 : ((2 * m : Int) == n) = true := by simpa using g2
        clear HG g1 g2 h16
        go_wp2_with fail
        go_call (HGh.out _) as e c4 ⟨rfl, hb⟩
        replace k0 : Blk c4 (c1.heap.size) 26 #[.int .i64 b, .int .i64 d, .int .i64 t] := Blk.pure (by repeat' (first | (with_reducible assumption) | (with_reducible exact Blk.new _ _ _) | (with_reducible exact Blk.new' (by simp)) | (with_reducible refine Blk.alloc ?_ _) | (with_reducible refine Blk.drew ?_) | (with_reducible refine Blk.drewN ?_ _) | (with_reducible refine Blk.ne ?_ ?_ _) | omega | (simp; omega))) hb
        have k1 : Blk c4 (c3.heap.size) 26 #[.int .i64 (2 * b), .int .i64 d, .int .i64 t] := Blk.pure (by repeat' (first | (with_reducible assumption) | (with_reducible exact Blk.new _ _ _) | (with_reducible exact Blk.new' (by simp)) | (with_reducible refine Blk.alloc ?_ _) | (with_reducible refine Blk.drew ?_) | (with_reducible refine Blk.drewN ?_ _) | (with_reducible refine Blk.ne ?_ ?_ _) | omega | (simp; omega))) hb
        have k2 : Blk c4 (c3.heap.size + 1) 26 #[.int .i64 b, .int .i64 d, .int .i64 1] := Blk.pure (by repeat' (first | (with_reducible assumption) | (with_reducible exact Blk.new _ _ _) | (with_reducible exact Blk.new' (by simp)) | (with_reducible refine Blk.alloc ?_ _) | (with_reducible refine Blk.drew ?_) | (with_reducible refine Blk.drewN ?_ _) | (with_reducible refine Blk.ne ?_ ?_ _) | omega | (simp; omega))) hb
        replace hB := below_pure (w := w) (by go_grown) hb
        clear hb; replace hsz := hB.size
        clear k0_c0 k0_f0 k0_c1 k0_f1 k0_c2 k0_f2 k0_z
        have k0_c0 : c4.cell? ⟨c1.heap.size, 0, none⟩ = some (.int .i64 b) := Blk.get k0 rfl
        have k0_f0 : c4.frozen? ⟨c1.heap.size, 0, none⟩ = false := Blk.frozen k0 0
        have k0_c1 : c4.cell? ⟨c1.heap.size, 1, none⟩ = some (.int .i64 d) := Blk.get k0 rfl
        have k0_f1 : c4.frozen? ⟨c1.heap.size, 1, none⟩ = false := Blk.frozen k0 1
        have k0_c2 : c4.cell? ⟨c1.heap.size, 2, none⟩ = some (.int .i64 t) := Blk.get k0 rfl
        have k0_f2 : c4.frozen? ⟨c1.heap.size, 2, none⟩ = false := Blk.frozen k0 2
        have k0_z : c1.heap.size < c4.heap.size := Blk.lt k0
        have k1_c0 : c4.cell? ⟨c3.heap.size, 0, none⟩ = some (.int .i64 (2 * b)) := Blk.get k1 rfl
        have k1_f0 : c4.frozen? ⟨c3.heap.size, 0, none⟩ = false := Blk.frozen k1 0
        have k1_c1 : c4.cell? ⟨c3.heap.size, 1, none⟩ = some (.int .i64 d) := Blk.get k1 rfl
        have k1_f1 : c4.frozen? ⟨c3.heap.size, 1, none⟩ = false := Blk.frozen k1 1
        have k1_c2 : c4.cell? ⟨c3.heap.size, 2, none⟩ = some (.int .i64 t) := Blk.get k1 rfl
        have k1_f2 : c4.frozen? ⟨c3.heap.size, 2, none⟩ = false := Blk.frozen k1 2
        have k1_z : c3.heap.size < c4.heap.size := Blk.lt k1
        have k2_c0 : c4.cell? ⟨c3.heap.size + 1, 0, none⟩ = some (.int .i64 b) := Blk.get k2 rfl
        have k2_f0 : c4.frozen? ⟨c3.heap.size + 1, 0, none⟩ = false := Blk.frozen k2 0
        have k2_c1 : c4.cell? ⟨c3.heap.size + 1, 1, none⟩ = some (.int .i64 d) := Blk.get k2 rfl
        have k2_f1 : c4.frozen? ⟨c3.heap.size + 1, 1, none⟩ = false := Blk.frozen k2 1
        have k2_c2 : c4.cell? ⟨c3.heap.size + 1, 2, none⟩ = some (.int .i64 1) := Blk.get k2 rfl
        have k2_f2 : c4.frozen? ⟨c3.heap.size + 1, 2, none⟩ = false := Blk.frozen k2 2
        have k2_z : c3.heap.size + 1 < c4.heap.size := Blk.lt k2
        go_wp2
        go_ret
        exact ⟨rfl, by go_grown⟩
    · skip
      have h1b : (t == 1) = false := by simpa using h1
      obtain ⟨g1, g2⟩ := H3h.out h1
      have HP := fun W => ticksOf_any b d 1 W
      rw [tickV_t g1] at HP
      generalize tick b d 1 = q at *
      have HPh := Lib.hid HP
      have q1 : 0 ≤ q := by omega
      have q2 : q ≤ 600 := by omega
      have q3 : ((3 * n : Int) == 2 * q) = true := by simpa using g2
      clear HP g1 g2 h1
      by_cases h16 : b = 16
      · have h16b : (b == 16) = true := by simpa using h16
        clear h16
        go_wp2_with fail
        go_call (HPh.out _) as e c4 ⟨rfl, hb⟩
        replace k0 : Blk c4 (c1.heap.size) 26 #[.int .i64 b, .int .i64 d, .int .i64 t] := Blk.pure (by repeat' (first | (with_reducible assumption) | (with_reducible exact Blk.new _ _ _) | (with_reducible exact Blk.new' (by simp)) | (with_reducible refine Blk.alloc ?_ _) | (with_reducible refine Blk.drew ?_) | (with_reducible refine Blk.drewN ?_ _) | (with_reducible refine Blk.ne ?_ ?_ _) | omega | (simp; omega))) hb
        have k1 : Blk c4 (c3.heap.size) 26 #[.int .i64 (2 * b), .int .i64 d, .int .i64 t] := Blk.pure (by repeat' (first | (with_reducible assumption) | (with_reducible exact Blk.new _ _ _) | (with_reducible exact Blk.new' (by simp)) | (with_reducible refine Blk.alloc ?_ _) | (with_reducible refine Blk.drew ?_) | (with_reducible refine Blk.drewN ?_ _) | (with_reducible refine Blk.ne ?_ ?_ _) | omega | (simp; omega))) hb
        have k2 : Blk c4 (c3.heap.size + 1) 26 #[.int .i64 b, .int .i64 d, .int .i64 1] := Blk.pure (by repeat' (first | (with_reducible assumption) | (with_reducible exact Blk.new _ _ _) | (with_reducible exact Blk.new' (by simp)) | (with_reducible refine Blk.alloc ?_ _) | (with_reducible refine Blk.drew ?_) | (with_reducible refine Blk.drewN ?_ _) | (with_reducible refine Blk.ne ?_ ?_ _) | omega | (simp; omega))) hb
        replace hB := below_pure (w := w) (by go_grown) hb
        clear hb; replace hsz := hB.size
        clear k0_c0 k0_f0 k0_c1 k0_f1 k0_c2 k0_f2 k0_z
        have k0_c0 : c4.cell? ⟨c1.heap.size, 0, none⟩ = some (.int .i64 b) := Blk.get k0 rfl
        have k0_f0 : c4.frozen? ⟨c1.heap.size, 0, none⟩ = false := Blk.frozen k0 0
        have k0_c1 : c4.cell? ⟨c1.heap.size, 1, none⟩ = some (.int .i64 d) := Blk.get k0 rfl
        have k0_f1 : c4.frozen? ⟨c1.heap.size, 1, none⟩ = false := Blk.frozen k0 1
        have k0_c2 : c4.cell? ⟨c1.heap.size, 2, none⟩ = some (.int .i64 t) := Blk.get k0 rfl
        have k0_f2 : c4.frozen? ⟨c1.heap.size, 2, none⟩ = false := Blk.frozen k0 2
        have k0_z : c1.heap.size < c4.heap.size := Blk.lt k0
        have k1_c0 : c4.cell? ⟨c3.heap.size, 0, none⟩ = some (.int .i64 (2 * b)) := Blk.get k1 rfl
        have k1_f0 : c4.frozen? ⟨c3.heap.size, 0, none⟩ = false := Blk.frozen k1 0
        have k1_c1 : c4.cell? ⟨c3.heap.size, 1, none⟩ = some (.int .i64 d) := Blk.get k1 rfl
        have k1_f1 : c4.frozen? ⟨c3.heap.size, 1, none⟩ = false := Blk.frozen k1 1
        have k1_c2 : c4.cell? ⟨c3.heap.size, 2, none⟩ = some (.int .i64 t) := Blk.get k1 rfl
        have k1_f2 : c4.frozen? ⟨c3.heap.size, 2, none⟩ = false := Blk.frozen k1 2
        have k1_z : c3.heap.size < c4.heap.size := Blk.lt k1
        have k2_c0 : c4.cell? ⟨c3.heap.size + 1, 0, none⟩ = some (.int .i64 b) := Blk.get k2 rfl
        have k2_f0 : c4.frozen? ⟨c3.heap.size + 1, 0, none⟩ = false := Blk.frozen k2 0
        have k2_c1 : c4.cell? ⟨c3.heap.size + 1, 1, none⟩ = some (.int .i64 d) := Blk.get k2 rfl
        have k2_f1 : c4.frozen? ⟨c3.heap.size + 1, 1, none⟩ = false := Blk.frozen k2 1
        have k2_c2 : c4.cell? ⟨c3.heap.size + 1, 2, none⟩ = some (.int .i64 1) := Blk.get k2 rfl
        have k2_f2 : c4.frozen? ⟨c3.heap.size + 1, 2, none⟩ = false := Blk.frozen k2 2
        have k2_z : c3.heap.size + 1 < c4.heap.size := Blk.lt k2
        go_wp2
        go_ret
        exact ⟨rfl, by go_grown⟩
      · skip
        have h16b : (b == 16) = false := by simpa using h16
        obtain ⟨g1, g2⟩ := H2h.out h16
        have HG := fun W => ticksOf_any (2 * b) d t W
        rw [tickV_t g1] at HG
        generalize tick (2 * b) d t = m at *
        have HGh := Lib.hid HG
        have m1 : 0 ≤ m := by omega
        have m2 : m ≤ 200 := by omega
        have m3 : ((2 * m : Int) == n) = true := by simpa using g2
        clear HG g1 g2 h16
        go_wp2_with fail
        go_call (HGh.out _) as e c4 ⟨rfl, hb⟩
        replace k0 : Blk c4 (c1.heap.size) 26 #[.int .i64 b, .int .i64 d, .int .i64 t] := Blk.pure (by repeat' (first | (with_reducible assumption) | (with_reducible exact Blk.new _ _ _) | (with_reducible exact Blk.new' (by simp)) | (with_reducible refine Blk.alloc ?_ _) | (with_reducible refine Blk.drew ?_) | (with_reducible refine Blk.drewN ?_ _) | (with_reducible refine Blk.ne ?_ ?_ _) | omega | (simp; omega))) hb
        have k1 : Blk c4 (c3.heap.size) 26 #[.int .i64 (2 * b), .int .i64 d, .int .i64 t] := Blk.pure (by repeat' (first | (with_reducible assumption) | (with_reducible exact Blk.new _ _ _) | (with_reducible exact Blk.new' (by simp)) | (with_reducible refine Blk.alloc ?_ _) | (with_reducible refine Blk.drew ?_) | (with_reducible refine Blk.drewN ?_ _) | (with_reducible refine Blk.ne ?_ ?_ _) | omega | (simp; omega))) hb
        have k2 : Blk c4 (c3.heap.size + 1) 26 #[.int .i64 b, .int .i64 d, .int .i64 1] := Blk.pure (by repeat' (first | (with_reducible assumption) | (with_reducible exact Blk.new _ _ _) | (with_reducible exact Blk.new' (by simp)) | (with_reducible refine Blk.alloc ?_ _) | (with_reducible refine Blk.drew ?_) | (with_reducible refine Blk.drewN ?_ _) | (with_reducible refine Blk.ne ?_ ?_ _) | omega | (simp; omega))) hb
        replace hB := below_pure (w := w) (by go_grown) hb
        clear hb; replace hsz := hB.size
        clear k0_c0 k0_f0 k0_c1 k0_f1 k0_c2 k0_f2 k0_z
        have k0_c0 : c4.cell? ⟨c1.heap.size, 0, none⟩ = some (.int .i64 b) := Blk.get k0 rfl
        have k0_f0 : c4.frozen? ⟨c1.heap.size, 0, none⟩ = false := Blk.frozen k0 0
        have k0_c1 : c4.cell? ⟨c1.heap.size, 1, none⟩ = some (.int .i64 d) := Blk.get k0 rfl
        have k0_f1 : c4.frozen? ⟨c1.heap.size, 1, none⟩ = false := Blk.frozen k0 1
        have k0_c2 : c4.cell? ⟨c1.heap.size, 2, none⟩ = some (.int .i64 t) := Blk.get k0 rfl
        have k0_f2 : c4.frozen? ⟨c1.heap.size, 2, none⟩ = false := Blk.frozen k0 2
        have k0_z : c1.heap.size < c4.heap.size := Blk.lt k0
        have k1_c0 : c4.cell? ⟨c3.heap.size, 0, none⟩ = some (.int .i64 (2 * b)) := Blk.get k1 rfl
        have k1_f0 : c4.frozen? ⟨c3.heap.size, 0, none⟩ = false := Blk.frozen k1 0
        have k1_c1 : c4.cell? ⟨c3.heap.size, 1, none⟩ = some (.int .i64 d) := Blk.get k1 rfl
        have k1_f1 : c4.frozen? ⟨c3.heap.size, 1, none⟩ = false := Blk.frozen k1 1
        have k1_c2 : c4.cell? ⟨c3.heap.size, 2, none⟩ = some (.int .i64 t) := Blk.get k1 rfl
        have k1_f2 : c4.frozen? ⟨c3.heap.size, 2, none⟩ = false := Blk.frozen k1 2
        have k1_z : c3.heap.size < c4.heap.size := Blk.lt k1
        have k2_c0 : c4.cell? ⟨c3.heap.size + 1, 0, none⟩ = some (.int .i64 b) := Blk.get k2 rfl
        have k2_f0 : c4.frozen? ⟨c3.heap.size + 1, 0, none⟩ = false := Blk.frozen k2 0
        have k2_c1 : c4.cell? ⟨c3.heap.size + 1, 1, none⟩ = some (.int .i64 d) := Blk.get k2 rfl
        have k2_f1 : c4.frozen? ⟨c3.heap.size + 1, 1, none⟩ = false := Blk.frozen k2 1
        have k2_c2 : c4.cell? ⟨c3.heap.size + 1, 2, none⟩ = some (.int .i64 1) := Blk.get k2 rfl
        have k2_f2 : c4.frozen? ⟨c3.heap.size + 1, 2, none⟩ = false := Blk.frozen k2 2
        have k2_z : c3.heap.size + 1 < c4.heap.size := Blk.lt k2
        go_wp2_with fail
        go_call (HPh.out _) as e c5 ⟨rfl, hb⟩
        replace k0 : Blk c5 (c1.heap.size) 26 #[.int .i64 b, .int .i64 d, .int .i64 t] := Blk.pure (by repeat' (first | (with_reducible assumption) | (with_reducible exact Blk.new _ _ _) | (with_reducible exact Blk.new' (by simp)) | (with_reducible refine Blk.alloc ?_ _) | (with_reducible refine Blk.drew ?_) | (with_reducible refine Blk.drewN ?_ _) | (with_reducible refine Blk.ne ?_ ?_ _) | omega | (simp; omega))) hb
        replace k1 : Blk c5 (c3.heap.size) 26 #[.int .i64 (2 * b), .int .i64 d, .int .i64 t] := Blk.pure (by repeat' (first | (with_reducible assumption) | (with_reducible exact Blk.new _ _ _) | (with_reducible exact Blk.new' (by simp)) | (with_reducible refine Blk.alloc ?_ _) | (with_reducible refine Blk.drew ?_) | (with_reducible refine Blk.drewN ?_ _) | (with_reducible refine Blk.ne ?_ ?_ _) | omega | (simp; omega))) hb
        replace k2 : Blk c5 (c3.heap.size + 1) 26 #[.int .i64 b, .int .i64 d, .int .i64 1] := Blk.pure (by repeat' (first | (with_reducible assumption) | (with_reducible exact Blk.new _ _ _) | (with_reducible exact Blk.new' (by simp)) | (with_reducible refine Blk.alloc ?_ _) | (with_reducible refine Blk.drew ?_) | (with_reducible refine Blk.drewN ?_ _) | (with_reducible refine Blk.ne ?_ ?_ _) | omega | (simp; omega))) hb
        replace hB := below_pure (w := w) (by go_grown) hb
        clear hb; replace hsz := hB.size
        clear k0_c0 k0_f0 k0_c1 k0_f1 k0_c2 k0_f2 k0_z k1_c0 k1_f0 k1_c1 k1_f1 k1_c2 k1_f2 k1_z k2_c0 k2_f0 k2_c1 k2_f1 k2_c2 k2_f2 k2_z
        have k0_c0 : c5.cell? ⟨c1.heap.size, 0, none⟩ = some (.int .i64 b) := Blk.get k0 rfl
        have k0_f0 : c5.frozen? ⟨c1.heap.size, 0, none⟩ = false := Blk.frozen k0 0
        have k0_c1 : c5.cell? ⟨c1.heap.size, 1, none⟩ = some (.int .i64 d) := Blk.get k0 rfl
        have k0_f1 : c5.frozen? ⟨c1.heap.size, 1, none⟩ = false := Blk.frozen k0 1
        have k0_c2 : c5.cell? ⟨c1.heap.size, 2, none⟩ = some (.int .i64 t) := Blk.get k0 rfl
        have k0_f2 : c5.frozen? ⟨c1.heap.size, 2, none⟩ = false := Blk.frozen k0 2
        have k0_z : c1.heap.size < c5.heap.size := Blk.lt k0
        have k1_c0 : c5.cell? ⟨c3.heap.size, 0, none⟩ = some (.int .i64 (2 * b)) := Blk.get k1 rfl
        have k1_f0 : c5.frozen? ⟨c3.heap.size, 0, none⟩ = false := Blk.frozen k1 0
        have k1_c1 : c5.cell? ⟨c3.heap.size, 1, none⟩ = some (.int .i64 d) := Blk.get k1 rfl
        have k1_f1 : c5.frozen? ⟨c3.heap.size, 1, none⟩ = false := Blk.frozen k1 1
        have k1_c2 : c5.cell? ⟨c3.heap.size, 2, none⟩ = some (.int .i64 t) := Blk.get k1 rfl
        have k1_f2 : c5.frozen? ⟨c3.heap.size, 2, none⟩ = false := Blk.frozen k1 2
        have k1_z : c3.heap.size < c5.heap.size := Blk.lt k1
        have k2_c0 : c5.cell? ⟨c3.heap.size + 1, 0, none⟩ = some (.int .i64 b) := Blk.get k2 rfl
        have k2_f0 : c5.frozen? ⟨c3.heap.size + 1, 0, none⟩ = false := Blk.frozen k2 0
        have k2_c1 : c5.cell? ⟨c3.heap.size + 1, 1, none⟩ = some (.int .i64 d) := Blk.get k2 rfl
        have k2_f1 : c5.frozen? ⟨c3.heap.size + 1, 1, none⟩ = false := Blk.frozen k2 1
        have k2_c2 : c5.cell? ⟨c3.heap.size + 1, 2, none⟩ = some (.int .i64 1) := Blk.get k2 rfl
        have k2_f2 : c5.frozen? ⟨c3.heap.size + 1, 2, none⟩ = false := Blk.frozen k2 2
        have k2_z : c3.heap.size + 1 < c5.heap.size := Blk.lt k2
        go_wp2
        go_ret
        exact ⟨rfl, by go_grown⟩
end Go.Proofs.Ytgbnaimkpnoeoaa

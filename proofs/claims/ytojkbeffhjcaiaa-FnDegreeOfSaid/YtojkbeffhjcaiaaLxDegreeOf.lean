/- The walk of the law FnDegreeOf: it returns true, and nothing that was there turns. No condition. -/
import Derived.Test.YtojkbeffhjcaiaaDk
import Derived.Test.YtojkbeffhjcaiaaAl
import Derived.Test.YtojkbeffhjcaiaaLxKeyScale
namespace Go.Proofs.Ytojkbeffhjcaiaa
open Go.RowKit

set_option maxHeartbeats 8000000 in
set_option maxRecDepth 100000 in
theorem fnDegreeOf_walk (a : Option Addr) (len cap : Nat) (w : World) (hC : Code' w a len cap) :
    Calls Try.prog 14 #[.slice a len cap] w (Gives (.bool true) w) := by
  by_cases hlen : 1048576 < len
  · have hcap : len ≤ 9223372036854775807 := by have h1 := hC.2.1; have h2 := hC.2.2; unfold maxLen at h2; omega
    go_enter Try.func14, Try.ntmps14
    go_wp2
    go_ret
    exact ⟨rfl, by go_grown⟩
  have hlen' : len ≤ 1048576 := by omega
  have HC := Lib.hid hC
  clear hC
  go_enter Try.func14, Try.ntmps14
  go_wp2_with fail
  refine (drawDegreeOf_any _ _ _ _ HC.out hlen').mono ?_
  rintro e c1 ⟨f, b, s, x, o, rfl, ⟨f0, f1, bs0, bs1, bx0, bx1, bo0, bo1⟩, hb⟩
  have hB : Below w.heap.size w c1 := by have h := below_pure (w := w) (by go_grown) hb; exact h
  have hsz := hB.size
  clear hb HC
  cases hd : degB f s x o
  · have d1 := degV_f (m := b) hd
    have d2 := degD_f hd
    cases hk : inR f (-7) 7
    · have e1 : sclN f = 0 := by unfold sclN; rw [hk]; rfl
      go_wp2_with fail
      go_call (degreeOf_any _ _ _ _ _ _) as e c2 ⟨rfl, hb⟩
      have k0 : Blk c2 (c1.heap.size) 27 #[.int .i64 s, .int .i64 x, .int .i64 o] := Blk.pure (by repeat' (first | (with_reducible assumption) | (with_reducible exact Blk.new _ _ _) | (with_reducible exact Blk.new' (by simp)) | (with_reducible refine Blk.alloc ?_ _) | (with_reducible refine Blk.drew ?_) | (with_reducible refine Blk.drewN ?_ _) | (with_reducible refine Blk.ne ?_ ?_ _) | omega | (simp; omega))) hb
      replace hB := below_pure (w := w) (by go_grown) hb
      clear hb; replace hsz := hB.size
      have k0_c0 : c2.cell? ⟨c1.heap.size, 0, none⟩ = some (.int .i64 s) := Blk.get k0 rfl
      have k0_f0 : c2.frozen? ⟨c1.heap.size, 0, none⟩ = false := Blk.frozen k0 0
      have k0_c1 : c2.cell? ⟨c1.heap.size, 1, none⟩ = some (.int .i64 x) := Blk.get k0 rfl
      have k0_f1 : c2.frozen? ⟨c1.heap.size, 1, none⟩ = false := Blk.frozen k0 1
      have k0_c2 : c2.cell? ⟨c1.heap.size, 2, none⟩ = some (.int .i64 o) := Blk.get k0 rfl
      have k0_f2 : c2.frozen? ⟨c1.heap.size, 2, none⟩ = false := Blk.frozen k0 2
      have k0_z : c1.heap.size < c2.heap.size := Blk.lt k0
      go_wp2_with fail
      go_call (specDegreeOf_any _ _ _ _ _ _) as e c3 ⟨rfl, hb⟩
      replace k0 : Blk c3 (c1.heap.size) 27 #[.int .i64 s, .int .i64 x, .int .i64 o] := Blk.pure (by repeat' (first | (with_reducible assumption) | (with_reducible exact Blk.new _ _ _) | (with_reducible exact Blk.new' (by simp)) | (with_reducible refine Blk.alloc ?_ _) | (with_reducible refine Blk.drew ?_) | (with_reducible refine Blk.drewN ?_ _) | (with_reducible refine Blk.ne ?_ ?_ _) | omega | (simp; omega))) hb
      replace hB := below_pure (w := w) (by go_grown) hb
      clear hb; replace hsz := hB.size
      clear k0_c0 k0_f0 k0_c1 k0_f1 k0_c2 k0_f2 k0_z
      have k0_c0 : c3.cell? ⟨c1.heap.size, 0, none⟩ = some (.int .i64 s) := Blk.get k0 rfl
      have k0_f0 : c3.frozen? ⟨c1.heap.size, 0, none⟩ = false := Blk.frozen k0 0
      have k0_c1 : c3.cell? ⟨c1.heap.size, 1, none⟩ = some (.int .i64 x) := Blk.get k0 rfl
      have k0_f1 : c3.frozen? ⟨c1.heap.size, 1, none⟩ = false := Blk.frozen k0 1
      have k0_c2 : c3.cell? ⟨c1.heap.size, 2, none⟩ = some (.int .i64 o) := Blk.get k0 rfl
      have k0_f2 : c3.frozen? ⟨c1.heap.size, 2, none⟩ = false := Blk.frozen k0 2
      have k0_z : c1.heap.size < c3.heap.size := Blk.lt k0
      go_wp2_with fail
      refine (keyScale_any f b _).mono ?_
      rintro e u1 ⟨a', ca, rfl, hb, O, l1, l2⟩
      rw [e1] at O l1 ⊢
      have Sx := O.sees
      replace k0 : Blk u1 (c1.heap.size) 27 #[.int .i64 s, .int .i64 x, .int .i64 o] := Blk.pure (by repeat' (first | (with_reducible assumption) | (with_reducible exact Blk.new _ _ _) | (with_reducible exact Blk.new' (by simp)) | (with_reducible refine Blk.alloc ?_ _) | (with_reducible refine Blk.drew ?_) | (with_reducible refine Blk.drewN ?_ _) | (with_reducible refine Blk.ne ?_ ?_ _) | omega | (simp; omega))) hb
      replace hB := below_pure hB hb
      clear hb O; replace hsz := hB.size
      clear k0_c0 k0_f0 k0_c1 k0_f1 k0_c2 k0_f2 k0_z
      have k0_c0 : u1.cell? ⟨c1.heap.size, 0, none⟩ = some (.int .i64 s) := Blk.get k0 rfl
      have k0_f0 : u1.frozen? ⟨c1.heap.size, 0, none⟩ = false := Blk.frozen k0 0
      have k0_c1 : u1.cell? ⟨c1.heap.size, 1, none⟩ = some (.int .i64 x) := Blk.get k0 rfl
      have k0_f1 : u1.frozen? ⟨c1.heap.size, 1, none⟩ = false := Blk.frozen k0 1
      have k0_c2 : u1.cell? ⟨c1.heap.size, 2, none⟩ = some (.int .i64 o) := Blk.get k0 rfl
      have k0_f2 : u1.frozen? ⟨c1.heap.size, 2, none⟩ = false := Blk.frozen k0 2
      have k0_z : c1.heap.size < u1.heap.size := Blk.lt k0
      go_wp2_with fail
      go_call (alive_any _) as e c4 ⟨rfl, hb⟩
      replace k0 : Blk c4 (c1.heap.size) 27 #[.int .i64 s, .int .i64 x, .int .i64 o] := Blk.pure (by repeat' (first | (with_reducible assumption) | (with_reducible exact Blk.new _ _ _) | (with_reducible exact Blk.new' (by simp)) | (with_reducible refine Blk.alloc ?_ _) | (with_reducible refine Blk.drew ?_) | (with_reducible refine Blk.drewN ?_ _) | (with_reducible refine Blk.ne ?_ ?_ _) | omega | (simp; omega))) hb
      replace hB := below_pure (w := w) (by go_grown) hb
      clear hb; replace hsz := hB.size
      clear k0_c0 k0_f0 k0_c1 k0_f1 k0_c2 k0_f2 k0_z
      have k0_c0 : c4.cell? ⟨c1.heap.size, 0, none⟩ = some (.int .i64 s) := Blk.get k0 rfl
      have k0_f0 : c4.frozen? ⟨c1.heap.size, 0, none⟩ = false := Blk.frozen k0 0
      have k0_c1 : c4.cell? ⟨c1.heap.size, 1, none⟩ = some (.int .i64 x) := Blk.get k0 rfl
      have k0_f1 : c4.frozen? ⟨c1.heap.size, 1, none⟩ = false := Blk.frozen k0 1
      have k0_c2 : c4.cell? ⟨c1.heap.size, 2, none⟩ = some (.int .i64 o) := Blk.get k0 rfl
      have k0_f2 : c4.frozen? ⟨c1.heap.size, 2, none⟩ = false := Blk.frozen k0 2
      have k0_z : c1.heap.size < c4.heap.size := Blk.lt k0
      go_wp2
      go_ret
      exact ⟨rfl, by go_grown⟩
    · have e1 : sclN f = 8 := by unfold sclN; rw [hk]; rfl
      have hv : pitchB s x o = false := by unfold degB at hd; rw [hk] at hd; simpa using hd
      go_wp2_with fail
      go_call (degreeOf_any _ _ _ _ _ _) as e c2 ⟨rfl, hb⟩
      have k0 : Blk c2 (c1.heap.size) 27 #[.int .i64 s, .int .i64 x, .int .i64 o] := Blk.pure (by repeat' (first | (with_reducible assumption) | (with_reducible exact Blk.new _ _ _) | (with_reducible exact Blk.new' (by simp)) | (with_reducible refine Blk.alloc ?_ _) | (with_reducible refine Blk.drew ?_) | (with_reducible refine Blk.drewN ?_ _) | (with_reducible refine Blk.ne ?_ ?_ _) | omega | (simp; omega))) hb
      replace hB := below_pure (w := w) (by go_grown) hb
      clear hb; replace hsz := hB.size
      have k0_c0 : c2.cell? ⟨c1.heap.size, 0, none⟩ = some (.int .i64 s) := Blk.get k0 rfl
      have k0_f0 : c2.frozen? ⟨c1.heap.size, 0, none⟩ = false := Blk.frozen k0 0
      have k0_c1 : c2.cell? ⟨c1.heap.size, 1, none⟩ = some (.int .i64 x) := Blk.get k0 rfl
      have k0_f1 : c2.frozen? ⟨c1.heap.size, 1, none⟩ = false := Blk.frozen k0 1
      have k0_c2 : c2.cell? ⟨c1.heap.size, 2, none⟩ = some (.int .i64 o) := Blk.get k0 rfl
      have k0_f2 : c2.frozen? ⟨c1.heap.size, 2, none⟩ = false := Blk.frozen k0 2
      have k0_z : c1.heap.size < c2.heap.size := Blk.lt k0
      go_wp2_with fail
      go_call (specDegreeOf_any _ _ _ _ _ _) as e c3 ⟨rfl, hb⟩
      replace k0 : Blk c3 (c1.heap.size) 27 #[.int .i64 s, .int .i64 x, .int .i64 o] := Blk.pure (by repeat' (first | (with_reducible assumption) | (with_reducible exact Blk.new _ _ _) | (with_reducible exact Blk.new' (by simp)) | (with_reducible refine Blk.alloc ?_ _) | (with_reducible refine Blk.drew ?_) | (with_reducible refine Blk.drewN ?_ _) | (with_reducible refine Blk.ne ?_ ?_ _) | omega | (simp; omega))) hb
      replace hB := below_pure (w := w) (by go_grown) hb
      clear hb; replace hsz := hB.size
      clear k0_c0 k0_f0 k0_c1 k0_f1 k0_c2 k0_f2 k0_z
      have k0_c0 : c3.cell? ⟨c1.heap.size, 0, none⟩ = some (.int .i64 s) := Blk.get k0 rfl
      have k0_f0 : c3.frozen? ⟨c1.heap.size, 0, none⟩ = false := Blk.frozen k0 0
      have k0_c1 : c3.cell? ⟨c1.heap.size, 1, none⟩ = some (.int .i64 x) := Blk.get k0 rfl
      have k0_f1 : c3.frozen? ⟨c1.heap.size, 1, none⟩ = false := Blk.frozen k0 1
      have k0_c2 : c3.cell? ⟨c1.heap.size, 2, none⟩ = some (.int .i64 o) := Blk.get k0 rfl
      have k0_f2 : c3.frozen? ⟨c1.heap.size, 2, none⟩ = false := Blk.frozen k0 2
      have k0_z : c1.heap.size < c3.heap.size := Blk.lt k0
      go_wp2_with fail
      refine (keyScale_any f b _).mono ?_
      rintro e u1 ⟨a', ca, rfl, hb, O, l1, l2⟩
      rw [e1] at O l1 ⊢
      have Sx := O.sees
      replace k0 : Blk u1 (c1.heap.size) 27 #[.int .i64 s, .int .i64 x, .int .i64 o] := Blk.pure (by repeat' (first | (with_reducible assumption) | (with_reducible exact Blk.new _ _ _) | (with_reducible exact Blk.new' (by simp)) | (with_reducible refine Blk.alloc ?_ _) | (with_reducible refine Blk.drew ?_) | (with_reducible refine Blk.drewN ?_ _) | (with_reducible refine Blk.ne ?_ ?_ _) | omega | (simp; omega))) hb
      replace hB := below_pure hB hb
      clear hb O; replace hsz := hB.size
      clear k0_c0 k0_f0 k0_c1 k0_f1 k0_c2 k0_f2 k0_z
      have k0_c0 : u1.cell? ⟨c1.heap.size, 0, none⟩ = some (.int .i64 s) := Blk.get k0 rfl
      have k0_f0 : u1.frozen? ⟨c1.heap.size, 0, none⟩ = false := Blk.frozen k0 0
      have k0_c1 : u1.cell? ⟨c1.heap.size, 1, none⟩ = some (.int .i64 x) := Blk.get k0 rfl
      have k0_f1 : u1.frozen? ⟨c1.heap.size, 1, none⟩ = false := Blk.frozen k0 1
      have k0_c2 : u1.cell? ⟨c1.heap.size, 2, none⟩ = some (.int .i64 o) := Blk.get k0 rfl
      have k0_f2 : u1.frozen? ⟨c1.heap.size, 2, none⟩ = false := Blk.frozen k0 2
      have k0_z : c1.heap.size < u1.heap.size := Blk.lt k0
      go_wp2_with fail
      go_call (specPitchValid_any _ _ _ _) as e c4 ⟨rfl, hb⟩
      replace k0 : Blk c4 (c1.heap.size) 27 #[.int .i64 s, .int .i64 x, .int .i64 o] := Blk.pure (by repeat' (first | (with_reducible assumption) | (with_reducible exact Blk.new _ _ _) | (with_reducible exact Blk.new' (by simp)) | (with_reducible refine Blk.alloc ?_ _) | (with_reducible refine Blk.drew ?_) | (with_reducible refine Blk.drewN ?_ _) | (with_reducible refine Blk.ne ?_ ?_ _) | omega | (simp; omega))) hb
      replace hB := below_pure (w := w) (by go_grown) hb
      clear hb; replace hsz := hB.size
      clear k0_c0 k0_f0 k0_c1 k0_f1 k0_c2 k0_f2 k0_z
      have k0_c0 : c4.cell? ⟨c1.heap.size, 0, none⟩ = some (.int .i64 s) := Blk.get k0 rfl
      have k0_f0 : c4.frozen? ⟨c1.heap.size, 0, none⟩ = false := Blk.frozen k0 0
      have k0_c1 : c4.cell? ⟨c1.heap.size, 1, none⟩ = some (.int .i64 x) := Blk.get k0 rfl
      have k0_f1 : c4.frozen? ⟨c1.heap.size, 1, none⟩ = false := Blk.frozen k0 1
      have k0_c2 : c4.cell? ⟨c1.heap.size, 2, none⟩ = some (.int .i64 o) := Blk.get k0 rfl
      have k0_f2 : c4.frozen? ⟨c1.heap.size, 2, none⟩ = false := Blk.frozen k0 2
      have k0_z : c1.heap.size < c4.heap.size := Blk.lt k0
      go_wp2_with fail
      go_call (alive_any _) as e c5 ⟨rfl, hb⟩
      replace k0 : Blk c5 (c1.heap.size) 27 #[.int .i64 s, .int .i64 x, .int .i64 o] := Blk.pure (by repeat' (first | (with_reducible assumption) | (with_reducible exact Blk.new _ _ _) | (with_reducible exact Blk.new' (by simp)) | (with_reducible refine Blk.alloc ?_ _) | (with_reducible refine Blk.drew ?_) | (with_reducible refine Blk.drewN ?_ _) | (with_reducible refine Blk.ne ?_ ?_ _) | omega | (simp; omega))) hb
      replace hB := below_pure (w := w) (by go_grown) hb
      clear hb; replace hsz := hB.size
      clear k0_c0 k0_f0 k0_c1 k0_f1 k0_c2 k0_f2 k0_z
      have k0_c0 : c5.cell? ⟨c1.heap.size, 0, none⟩ = some (.int .i64 s) := Blk.get k0 rfl
      have k0_f0 : c5.frozen? ⟨c1.heap.size, 0, none⟩ = false := Blk.frozen k0 0
      have k0_c1 : c5.cell? ⟨c1.heap.size, 1, none⟩ = some (.int .i64 x) := Blk.get k0 rfl
      have k0_f1 : c5.frozen? ⟨c1.heap.size, 1, none⟩ = false := Blk.frozen k0 1
      have k0_c2 : c5.cell? ⟨c1.heap.size, 2, none⟩ = some (.int .i64 o) := Blk.get k0 rfl
      have k0_f2 : c5.frozen? ⟨c1.heap.size, 2, none⟩ = false := Blk.frozen k0 2
      have k0_z : c1.heap.size < c5.heap.size := Blk.lt k0
      go_wp2
      go_ret
      exact ⟨rfl, by go_grown⟩
  have d1 := degV_t (m := b) hd
  have d2 := degD_t hd
  have hkv : inR f (-7) 7 = true ∧ pitchB s x o = true := by unfold degB at hd; rw [Bool.and_eq_true] at hd; exact hd
  obtain ⟨hk, hv⟩ := hkv
  have e1 : sclN f = 8 := by unfold sclN; rw [hk]; rfl
  obtain ⟨q0, q1⟩ := inR_t hk
  have hb := pitchB_t hv
  obtain ⟨p0, p1, p2, p3, p4, p5⟩ := hb
  have ti := ton_bd f b
  have hal : altV f s = alt f s := altV_t (keyB_mk (by omega))
  have ab := alt_bd f s
  obtain ⟨d, hdd⟩ : ∃ d : Nat, (s - ton f b) % 7 = (d : Int) := ⟨((s - ton f b) % 7).toNat, by omega⟩
  have d6 : d ≤ 6 := by omega
  have es : dS f b d = s := by unfold dS; omega
  have ea : dA f b d = alt f s := by unfold dA; rw [es]; exact hal
  have ek := inKey_valid hk hv
  rw [hal] at ek
  rw [hdd] at d1
  have HD := fun W => degreeOf_any f b s x o W
  have HS := fun W => specDegreeOf_any f b s x o W
  have HI := fun W => inKey_any f s x o W
  rw [d1, d2] at HD HS
  rw [ek] at HI
  clear d1 d2 hdd ek hal ti hd
  have ES := Lib.hid es
  have EA := Lib.hid ea
  clear es ea
  generalize alt f s = A at *
  obtain ⟨a0, a1⟩ := ab
  have hd0 : (0 : Int) ≤ (d : Int) := by omega
  have hd1 : (d : Int) < 8 := by omega
  have hw1 : IntKind.i64.wrap (A + (x - A)) = x := by rw [show A + (x - A) = x by omega]; exact IntWalk.i64_in _ (by omega)
  have hw2 : A + (x - A) = x := by omega
  cases hx : (x == A)
  · rw [hx] at HI
    have hx0 : (x - A == 0) = false := by have h := hx; simp at h ⊢; omega
    replace HD := Lib.hid HD
    replace HS := Lib.hid HS
    replace HI := Lib.hid HI
    have HW1 := Lib.hid hw1
    have HW2 := Lib.hid hw2
    have HX := Lib.hid hx
    have HX0 := Lib.hid hx0
    clear hw1 hw2 hx hx0
    go_wp2_with fail
    go_call (HD.out _) as e c2 ⟨rfl, hb⟩
    have k0 : Blk c2 (c1.heap.size) 27 #[.int .i64 s, .int .i64 x, .int .i64 o] := Blk.pure (by repeat' (first | (with_reducible assumption) | (with_reducible exact Blk.new _ _ _) | (with_reducible exact Blk.new' (by simp)) | (with_reducible refine Blk.alloc ?_ _) | (with_reducible refine Blk.drew ?_) | (with_reducible refine Blk.drewN ?_ _) | (with_reducible refine Blk.ne ?_ ?_ _) | omega | (simp; omega))) hb
    replace hB := below_pure (w := w) (by go_grown) hb
    clear hb; replace hsz := hB.size
    have k0_c0 : c2.cell? ⟨c1.heap.size, 0, none⟩ = some (.int .i64 s) := Blk.get k0 rfl
    have k0_f0 : c2.frozen? ⟨c1.heap.size, 0, none⟩ = false := Blk.frozen k0 0
    have k0_c1 : c2.cell? ⟨c1.heap.size, 1, none⟩ = some (.int .i64 x) := Blk.get k0 rfl
    have k0_f1 : c2.frozen? ⟨c1.heap.size, 1, none⟩ = false := Blk.frozen k0 1
    have k0_c2 : c2.cell? ⟨c1.heap.size, 2, none⟩ = some (.int .i64 o) := Blk.get k0 rfl
    have k0_f2 : c2.frozen? ⟨c1.heap.size, 2, none⟩ = false := Blk.frozen k0 2
    have k0_z : c1.heap.size < c2.heap.size := Blk.lt k0
    go_wp2_with fail
    go_call (HS.out _) as e c3 ⟨rfl, hb⟩
    replace k0 : Blk c3 (c1.heap.size) 27 #[.int .i64 s, .int .i64 x, .int .i64 o] := Blk.pure (by repeat' (first | (with_reducible assumption) | (with_reducible exact Blk.new _ _ _) | (with_reducible exact Blk.new' (by simp)) | (with_reducible refine Blk.alloc ?_ _) | (with_reducible refine Blk.drew ?_) | (with_reducible refine Blk.drewN ?_ _) | (with_reducible refine Blk.ne ?_ ?_ _) | omega | (simp; omega))) hb
    replace hB := below_pure (w := w) (by go_grown) hb
    clear hb; replace hsz := hB.size
    clear k0_c0 k0_f0 k0_c1 k0_f1 k0_c2 k0_f2 k0_z
    have k0_c0 : c3.cell? ⟨c1.heap.size, 0, none⟩ = some (.int .i64 s) := Blk.get k0 rfl
    have k0_f0 : c3.frozen? ⟨c1.heap.size, 0, none⟩ = false := Blk.frozen k0 0
    have k0_c1 : c3.cell? ⟨c1.heap.size, 1, none⟩ = some (.int .i64 x) := Blk.get k0 rfl
    have k0_f1 : c3.frozen? ⟨c1.heap.size, 1, none⟩ = false := Blk.frozen k0 1
    have k0_c2 : c3.cell? ⟨c1.heap.size, 2, none⟩ = some (.int .i64 o) := Blk.get k0 rfl
    have k0_f2 : c3.frozen? ⟨c1.heap.size, 2, none⟩ = false := Blk.frozen k0 2
    have k0_z : c1.heap.size < c3.heap.size := Blk.lt k0
    go_wp2_with fail
    refine (keyScale_any f b _).mono ?_
    rintro e u1 ⟨a', ca, rfl, hb, O, l1, l2⟩
    rw [e1] at O l1 ⊢
    have Sx := O.sees
    replace k0 : Blk u1 (c1.heap.size) 27 #[.int .i64 s, .int .i64 x, .int .i64 o] := Blk.pure (by repeat' (first | (with_reducible assumption) | (with_reducible exact Blk.new _ _ _) | (with_reducible exact Blk.new' (by simp)) | (with_reducible refine Blk.alloc ?_ _) | (with_reducible refine Blk.drew ?_) | (with_reducible refine Blk.drewN ?_ _) | (with_reducible refine Blk.ne ?_ ?_ _) | omega | (simp; omega))) hb
    replace hB := below_pure hB hb
    clear hb O; replace hsz := hB.size
    clear k0_c0 k0_f0 k0_c1 k0_f1 k0_c2 k0_f2 k0_z
    have k0_c0 : u1.cell? ⟨c1.heap.size, 0, none⟩ = some (.int .i64 s) := Blk.get k0 rfl
    have k0_f0 : u1.frozen? ⟨c1.heap.size, 0, none⟩ = false := Blk.frozen k0 0
    have k0_c1 : u1.cell? ⟨c1.heap.size, 1, none⟩ = some (.int .i64 x) := Blk.get k0 rfl
    have k0_f1 : u1.frozen? ⟨c1.heap.size, 1, none⟩ = false := Blk.frozen k0 1
    have k0_c2 : u1.cell? ⟨c1.heap.size, 2, none⟩ = some (.int .i64 o) := Blk.get k0 rfl
    have k0_f2 : u1.frozen? ⟨c1.heap.size, 2, none⟩ = false := Blk.frozen k0 2
    have k0_z : c1.heap.size < u1.heap.size := Blk.lt k0
    obtain ⟨g, off, rfl, hc⟩ := Sx (by omega)
    obtain ⟨m0, m1, m2⟩ := deg3 hc (show d < 8 by omega)
    rw [ES.out] at m0
    rw [EA.out] at m1
    unfold maxLen at l2
    have zl := cell_lt m0
    clear hc Sx m2 e1
    go_upto_region 11 with fail
    have hw3 : IntKind.i64.wrap x = x := IntWalk.i64_in _ (by omega)
    have hw1 := HW1.out
    have hw2 := HW2.out
    have hx0 := HX0.out
    have HSd := Lib.hid (show u1.drew.cell? ⟨g, off + d * 3, none⟩ = some (.int .i64 s) ∧ u1.drew.cell? ⟨g, off + d * 3 + 1, none⟩ = some (.int .i64 A) ∧ u1.drew.cell? ⟨c1.heap.size, 0, none⟩ = some (.int .i64 s) ∧ u1.drew.cell? ⟨c1.heap.size, 1, none⟩ = some (.int .i64 x) ∧ u1.drew.cell? ⟨c1.heap.size, 2, none⟩ = some (.int .i64 o) ∧ Below w.heap.size w u1.drew from ⟨m0, m1, k0_c0, k0_c1, k0_c2, hB.drew⟩)
    clear m0 m1 hB k0_c0 k0_f0 k0_c1 k0_f1 k0_c2 k0_f2 k0_z k0
    go_region_held3 (fun w' => w'.cell? ⟨g, off + d * 3, none⟩ = some (.int .i64 s) ∧ w'.cell? ⟨g, off + d * 3 + 1, none⟩ = some (.int .i64 A) ∧ w'.cell? ⟨c1.heap.size, 0, none⟩ = some (.int .i64 s) ∧ w'.cell? ⟨c1.heap.size, 1, none⟩ = some (.int .i64 x) ∧ w'.cell? ⟨c1.heap.size, 2, none⟩ = some (.int .i64 o) ∧ Below w.heap.size w w')
      (first | exact HSd.out | (go_split_ands; (repeat' apply And.intro) <;> first | (with_reducible assumption) | (with_reducible exact cell_pure hbc (cell_lt (by assumption)) (by assumption)) | (with_reducible exact below_pure (by assumption) hbc)))
      (first | (go_at_call 21; refine (HI.out _).mono ?_; rintro e w2 ⟨rfl, hbc⟩))
    all_goals
      clear HSd
      go_split_ands
      go_wp2
      go_ret
      exact ⟨rfl, by assumption⟩
  · rw [hx] at HI
    have hx0 : (x - A == 0) = true := by have h := hx; simp at h ⊢; omega
    replace HD := Lib.hid HD
    replace HS := Lib.hid HS
    replace HI := Lib.hid HI
    have HW1 := Lib.hid hw1
    have HW2 := Lib.hid hw2
    have HX := Lib.hid hx
    have HX0 := Lib.hid hx0
    clear hw1 hw2 hx hx0
    go_wp2_with fail
    go_call (HD.out _) as e c2 ⟨rfl, hb⟩
    have k0 : Blk c2 (c1.heap.size) 27 #[.int .i64 s, .int .i64 x, .int .i64 o] := Blk.pure (by repeat' (first | (with_reducible assumption) | (with_reducible exact Blk.new _ _ _) | (with_reducible exact Blk.new' (by simp)) | (with_reducible refine Blk.alloc ?_ _) | (with_reducible refine Blk.drew ?_) | (with_reducible refine Blk.drewN ?_ _) | (with_reducible refine Blk.ne ?_ ?_ _) | omega | (simp; omega))) hb
    replace hB := below_pure (w := w) (by go_grown) hb
    clear hb; replace hsz := hB.size
    have k0_c0 : c2.cell? ⟨c1.heap.size, 0, none⟩ = some (.int .i64 s) := Blk.get k0 rfl
    have k0_f0 : c2.frozen? ⟨c1.heap.size, 0, none⟩ = false := Blk.frozen k0 0
    have k0_c1 : c2.cell? ⟨c1.heap.size, 1, none⟩ = some (.int .i64 x) := Blk.get k0 rfl
    have k0_f1 : c2.frozen? ⟨c1.heap.size, 1, none⟩ = false := Blk.frozen k0 1
    have k0_c2 : c2.cell? ⟨c1.heap.size, 2, none⟩ = some (.int .i64 o) := Blk.get k0 rfl
    have k0_f2 : c2.frozen? ⟨c1.heap.size, 2, none⟩ = false := Blk.frozen k0 2
    have k0_z : c1.heap.size < c2.heap.size := Blk.lt k0
    go_wp2_with fail
    go_call (HS.out _) as e c3 ⟨rfl, hb⟩
    replace k0 : Blk c3 (c1.heap.size) 27 #[.int .i64 s, .int .i64 x, .int .i64 o] := Blk.pure (by repeat' (first | (with_reducible assumption) | (with_reducible exact Blk.new _ _ _) | (with_reducible exact Blk.new' (by simp)) | (with_reducible refine Blk.alloc ?_ _) | (with_reducible refine Blk.drew ?_) | (with_reducible refine Blk.drewN ?_ _) | (with_reducible refine Blk.ne ?_ ?_ _) | omega | (simp; omega))) hb
    replace hB := below_pure (w := w) (by go_grown) hb
    clear hb; replace hsz := hB.size
    clear k0_c0 k0_f0 k0_c1 k0_f1 k0_c2 k0_f2 k0_z
    have k0_c0 : c3.cell? ⟨c1.heap.size, 0, none⟩ = some (.int .i64 s) := Blk.get k0 rfl
    have k0_f0 : c3.frozen? ⟨c1.heap.size, 0, none⟩ = false := Blk.frozen k0 0
    have k0_c1 : c3.cell? ⟨c1.heap.size, 1, none⟩ = some (.int .i64 x) := Blk.get k0 rfl
    have k0_f1 : c3.frozen? ⟨c1.heap.size, 1, none⟩ = false := Blk.frozen k0 1
    have k0_c2 : c3.cell? ⟨c1.heap.size, 2, none⟩ = some (.int .i64 o) := Blk.get k0 rfl
    have k0_f2 : c3.frozen? ⟨c1.heap.size, 2, none⟩ = false := Blk.frozen k0 2
    have k0_z : c1.heap.size < c3.heap.size := Blk.lt k0
    go_wp2_with fail
    refine (keyScale_any f b _).mono ?_
    rintro e u1 ⟨a', ca, rfl, hb, O, l1, l2⟩
    rw [e1] at O l1 ⊢
    have Sx := O.sees
    replace k0 : Blk u1 (c1.heap.size) 27 #[.int .i64 s, .int .i64 x, .int .i64 o] := Blk.pure (by repeat' (first | (with_reducible assumption) | (with_reducible exact Blk.new _ _ _) | (with_reducible exact Blk.new' (by simp)) | (with_reducible refine Blk.alloc ?_ _) | (with_reducible refine Blk.drew ?_) | (with_reducible refine Blk.drewN ?_ _) | (with_reducible refine Blk.ne ?_ ?_ _) | omega | (simp; omega))) hb
    replace hB := below_pure hB hb
    clear hb O; replace hsz := hB.size
    clear k0_c0 k0_f0 k0_c1 k0_f1 k0_c2 k0_f2 k0_z
    have k0_c0 : u1.cell? ⟨c1.heap.size, 0, none⟩ = some (.int .i64 s) := Blk.get k0 rfl
    have k0_f0 : u1.frozen? ⟨c1.heap.size, 0, none⟩ = false := Blk.frozen k0 0
    have k0_c1 : u1.cell? ⟨c1.heap.size, 1, none⟩ = some (.int .i64 x) := Blk.get k0 rfl
    have k0_f1 : u1.frozen? ⟨c1.heap.size, 1, none⟩ = false := Blk.frozen k0 1
    have k0_c2 : u1.cell? ⟨c1.heap.size, 2, none⟩ = some (.int .i64 o) := Blk.get k0 rfl
    have k0_f2 : u1.frozen? ⟨c1.heap.size, 2, none⟩ = false := Blk.frozen k0 2
    have k0_z : c1.heap.size < u1.heap.size := Blk.lt k0
    obtain ⟨g, off, rfl, hc⟩ := Sx (by omega)
    obtain ⟨m0, m1, m2⟩ := deg3 hc (show d < 8 by omega)
    rw [ES.out] at m0
    rw [EA.out] at m1
    unfold maxLen at l2
    have zl := cell_lt m0
    clear hc Sx m2 e1
    go_upto_region 11 with fail
    have hw3 : IntKind.i64.wrap x = x := IntWalk.i64_in _ (by omega)
    have hw1 := HW1.out
    have hw2 := HW2.out
    have hx0 := HX0.out
    have HSd := Lib.hid (show u1.drew.cell? ⟨g, off + d * 3, none⟩ = some (.int .i64 s) ∧ u1.drew.cell? ⟨g, off + d * 3 + 1, none⟩ = some (.int .i64 A) ∧ u1.drew.cell? ⟨c1.heap.size, 0, none⟩ = some (.int .i64 s) ∧ u1.drew.cell? ⟨c1.heap.size, 1, none⟩ = some (.int .i64 x) ∧ u1.drew.cell? ⟨c1.heap.size, 2, none⟩ = some (.int .i64 o) ∧ Below w.heap.size w u1.drew from ⟨m0, m1, k0_c0, k0_c1, k0_c2, hB.drew⟩)
    clear m0 m1 hB k0_c0 k0_f0 k0_c1 k0_f1 k0_c2 k0_f2 k0_z k0
    go_region_held3 (fun w' => w'.cell? ⟨g, off + d * 3, none⟩ = some (.int .i64 s) ∧ w'.cell? ⟨g, off + d * 3 + 1, none⟩ = some (.int .i64 A) ∧ w'.cell? ⟨c1.heap.size, 0, none⟩ = some (.int .i64 s) ∧ w'.cell? ⟨c1.heap.size, 1, none⟩ = some (.int .i64 x) ∧ w'.cell? ⟨c1.heap.size, 2, none⟩ = some (.int .i64 o) ∧ Below w.heap.size w w')
      (first | exact HSd.out | (go_split_ands; (repeat' apply And.intro) <;> first | (with_reducible assumption) | (with_reducible exact cell_pure hbc (cell_lt (by assumption)) (by assumption)) | (with_reducible exact below_pure (by assumption) hbc)))
      (first | (go_at_call 21; refine (HI.out _).mono ?_; rintro e w2 ⟨rfl, hbc⟩))
    all_goals
      clear HSd
      go_split_ands
      go_wp2
      go_ret
      exact ⟨rfl, by assumption⟩
end Go.Proofs.Ytojkbeffhjcaiaa

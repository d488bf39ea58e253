/- The walks of the functions on the tonics of keys. No condition. -/
import Derived.Test.YtojkbeffhjcaiaaKa
namespace Go.Proofs.Ytojkbeffhjcaiaa
open Go.RowKit

theorem same_gives {P : Program} {f : FuncId} {args : Array Value} {w : World} {v : Value} (h : Calls P f args w fun e w' => e = .returned v ∧ w = w') : Calls P f args w (Gives v w) :=
  h.mono fun _ _ hh => ⟨hh.1, hh.2 ▸ Below.refl _ _⟩
theorem ret_int {k : IntKind} {a b : Int} (h : a = b) : Ending.returned (.int k a) = .returned (.int k b) := by rw [h]
theorem tm_bd (n : Int) : -6 ≤ n.tmod 7 ∧ n.tmod 7 ≤ 6 := by
  have h1 := Int.tmod_lt_of_pos n (show (0 : Int) < 7 by omega)
  have h2 : -7 < n.tmod 7 := by
    rcases Int.le_total 0 n with h | h
    · have := Int.tmod_nonneg 7 h
      omega
    · have h3 := Int.tmod_lt_of_pos (-n) (show (0 : Int) < 7 by omega)
      rw [Int.neg_tmod] at h3
      omega
  omega
theorem tm_mod (n : Int) : (n.tmod 7 + 7) % 7 = n % 7 := by
  have h := Int.mul_tdiv_add_tmod n 7
  omega
/-- The step of the tonic of a key. -/
def ton (f : Int) (m : Bool) : Int := if m then ((4 * f) % 7 + 5) % 7 else (4 * f) % 7
theorem ton_bd (f : Int) (m : Bool) : 0 ≤ ton f m ∧ ton f m ≤ 6 := by
  unfold ton
  cases m
  · simp
    omega
  · simp
    omega
theorem ton_t (f : Int) : ton f true = ((4 * f) % 7 + 5) % 7 := rfl
theorem ton_f (f : Int) : ton f false = (4 * f) % 7 := rfl

set_option maxHeartbeats 400000 in
theorem modulo_any (n : Int) (w : World) : Calls Try.prog 56 #[.int .i64 n, .int .i64 7] w fun e w' => e = .returned (.int .i64 (n % 7)) ∧ w = w' := by
  obtain ⟨b0, b1⟩ := tm_bd n
  have b2 : 0 ≤ n.tmod 7 + 7 := by omega
  have HR := Lib.hid (tm_mod n)
  go_enter Try.func56, Try.ntmps56
  go_wp2
  go_ret
  exact ⟨by rw [← HR.out]; rfl, rfl⟩

set_option maxHeartbeats 400000 in
theorem tonicPlace_any (f : Int) (m : Bool) (h0 : -7 ≤ f) (h1 : f ≤ 7) (w : World) : Calls Try.prog 55 #[.int .i64 f, .bool m] w fun e w' => e = .returned (.int .i64 (28 + ton f m)) ∧ w = w' := by
  have b0 : 0 ≤ (4 * f) % 7 := by omega
  have b1 : (4 * f) % 7 ≤ 6 := by omega
  have b2 : 0 ≤ ((4 * f) % 7 + 5) % 7 := by omega
  have b3 : ((4 * f) % 7 + 5) % 7 ≤ 6 := by omega
  cases m
  · have HR := Lib.hid (ton_f f)
    go_enter Try.func55, Try.ntmps55
    go_wp2_with (go_call (modulo_any _ _) as e w1 ⟨rfl, rfl⟩)
    go_ret
    exact ⟨by rw [HR.out]; first | rfl | exact ret_int (by omega), rfl⟩
  · have HR := Lib.hid (ton_t f)
    go_enter Try.func55, Try.ntmps55
    go_wp2_with (go_call (modulo_any _ _) as e w1 ⟨rfl, rfl⟩)
    go_ret
    exact ⟨by rw [HR.out]; first | rfl | exact ret_int (by omega), rfl⟩

theorem ton_70 (f : Int) : (4 * f + 70) % 7 = (4 * f) % 7 := by omega
set_option maxHeartbeats 400000 in
theorem l3Tonic_any (f : Int) (m : Bool) (h0 : -7 ≤ f) (h1 : f ≤ 7) (w : World) : Calls Try.prog 53 #[.int .i64 f, .bool m] w fun e w' => e = .returned (.int .i64 (ton f m)) ∧ w = w' := by
  have b0 : 0 ≤ (4 * f + 70) % 7 := by omega
  have b1 : (4 * f + 70) % 7 ≤ 6 := by omega
  have b2 : 0 ≤ ((4 * f + 70) % 7 + 5) % 7 := by omega
  have b3 : ((4 * f + 70) % 7 + 5) % 7 ≤ 6 := by omega
  have b4 : 0 ≤ 4 * f + 70 := by omega
  cases m
  · have HR := Lib.hid (ton_f f)
    go_enter Try.func53, Try.ntmps53
    go_wp2
    go_ret
    exact ⟨by rw [HR.out, ← ton_70]; rfl, rfl⟩
  · have HR := Lib.hid (ton_t f)
    go_enter Try.func53, Try.ntmps53
    go_wp2
    go_ret
    exact ⟨by rw [HR.out, ← ton_70]; rfl, rfl⟩

set_option maxHeartbeats 400000 in
theorem keyPitch_any (f p : Int) (h0 : 0 ≤ p) (h1 : p ≤ 1000) (w : World) : Calls Try.prog 54 #[.int .i64 f, .int .i64 p] w (Gives (.agg #[.int .i64 (p % 7), .int .i64 (altV f (p % 7)), .int .i64 (p / 7)]) w) := by
  have b0 : 0 ≤ p % 7 := by omega
  have b1 : 0 ≤ p / 7 := by omega
  have b2 : p / 7 ≤ 1000 := by omega
  go_enter Try.func54, Try.ntmps54

  go_wp2_with fail
  have k0 : Blk (w.alloc (Obj.cells #[.int .i64 0, .int .i64 0, .int .i64 0] 27)) (w.heap.size) 27 #[.int .i64 0, .int .i64 0, .int .i64 0] := (by repeat' (first | (with_reducible assumption) | (with_reducible exact Blk.new _ _ _) | (with_reducible exact Blk.new' (by simp)) | (with_reducible refine Blk.alloc ?_ _) | (with_reducible refine Blk.drew ?_) | (with_reducible refine Blk.drewN ?_ _) | (with_reducible refine Blk.ne ?_ ?_ _) | omega | (simp; omega)))
  have hB : Below w.heap.size w (w.alloc (Obj.cells #[.int .i64 0, .int .i64 0, .int .i64 0] 27)) := by go_grown
  generalize (w.alloc (Obj.cells #[.int .i64 0, .int .i64 0, .int .i64 0] 27)) = c0 at *
  have k0_c0 : c0.cell? ⟨w.heap.size, 0, none⟩ = some (.int .i64 0) := Blk.get k0 rfl
  have k0_f0 : c0.frozen? ⟨w.heap.size, 0, none⟩ = false := Blk.frozen k0 0
  have k0_c1 : c0.cell? ⟨w.heap.size, 1, none⟩ = some (.int .i64 0) := Blk.get k0 rfl
  have k0_f1 : c0.frozen? ⟨w.heap.size, 1, none⟩ = false := Blk.frozen k0 1
  have k0_c2 : c0.cell? ⟨w.heap.size, 2, none⟩ = some (.int .i64 0) := Blk.get k0 rfl
  have k0_f2 : c0.frozen? ⟨w.heap.size, 2, none⟩ = false := Blk.frozen k0 2
  have k0_z : w.heap.size < c0.heap.size := Blk.lt k0
  go_call (keyAlter_any _ _ _) as e c1 ⟨rfl, hb⟩
  replace k0 : Blk c1 (w.heap.size) 27 #[.int .i64 0, .int .i64 0, .int .i64 0] := Blk.pure (by repeat' (first | (with_reducible assumption) | (with_reducible exact Blk.new _ _ _) | (with_reducible exact Blk.new' (by simp)) | (with_reducible refine Blk.alloc ?_ _) | (with_reducible refine Blk.drew ?_) | (with_reducible refine Blk.drewN ?_ _) | (with_reducible refine Blk.ne ?_ ?_ _) | omega | (simp; omega))) hb
  replace hB := below_pure (w := w) (by go_grown) hb
  clear hb
  clear k0_c0 k0_f0 k0_c1 k0_f1 k0_c2 k0_f2 k0_z
  have k0_c0 : c1.cell? ⟨w.heap.size, 0, none⟩ = some (.int .i64 0) := Blk.get k0 rfl
  have k0_f0 : c1.frozen? ⟨w.heap.size, 0, none⟩ = false := Blk.frozen k0 0
  have k0_c1 : c1.cell? ⟨w.heap.size, 1, none⟩ = some (.int .i64 0) := Blk.get k0 rfl
  have k0_f1 : c1.frozen? ⟨w.heap.size, 1, none⟩ = false := Blk.frozen k0 1
  have k0_c2 : c1.cell? ⟨w.heap.size, 2, none⟩ = some (.int .i64 0) := Blk.get k0 rfl
  have k0_f2 : c1.frozen? ⟨w.heap.size, 2, none⟩ = false := Blk.frozen k0 2
  have k0_z : w.heap.size < c1.heap.size := Blk.lt k0
  go_wp2
  refine bodyPost_ret (v := .agg #[.int .i64 (p % 7), .int .i64 (altV f (p % 7)), .int .i64 (p / 7)]) (by simp [results, Try.results54, go_sem, *]) rfl ⟨rfl, by go_grown⟩

def tonA (f : Int) (m : Bool) : Int := if inR f (-7) 7 then alt f (ton f m) else 0
def tonS (f : Int) (m : Bool) : Int := if inR f (-7) 7 then ton f m else 0
def tonO (f : Int) : Int := if inR f (-7) 7 then 4 else 0
theorem tonA_t {f : Int} {m : Bool} (h : inR f (-7) 7 = true) : tonA f m = alt f (ton f m) := by unfold tonA; rw [if_pos h]
theorem tonA_f {f : Int} {m : Bool} (h : inR f (-7) 7 = false) : tonA f m = 0 := by unfold tonA; rw [h]; rfl
theorem tonS_t {f : Int} {m : Bool} (h : inR f (-7) 7 = true) : tonS f m = ton f m := by unfold tonS; rw [if_pos h]
theorem tonS_f {f : Int} {m : Bool} (h : inR f (-7) 7 = false) : tonS f m = 0 := by unfold tonS; rw [h]; rfl
theorem tonO_t {f : Int} (h : inR f (-7) 7 = true) : tonO f = 4 := by unfold tonO; rw [if_pos h]
theorem tonO_f {f : Int} (h : inR f (-7) 7 = false) : tonO f = 0 := by unfold tonO; rw [h]; rfl

set_option maxHeartbeats 1000000 in
theorem keyTonic_any (f : Int) (m : Bool) (w : World) : Calls Try.prog 23 #[.int .i64 f, .bool m] w (Gives (.tuple #[.agg #[.int .i64 (tonS f m), .int .i64 (tonA f m), .int .i64 (tonO f)], .bool (inR f (-7) 7)]) w) := by
  cases h1 : inR f (-7) 7
  · rw [tonS_f h1, tonA_f h1, tonO_f h1]
    go_enter Try.func23, Try.ntmps23
    go_wp2_with (go_call (isKey_any _ _) as e w1 ⟨rfl, rfl⟩)
    refine bodyPost_ret (v := .tuple #[.agg #[.int .i64 0, .int .i64 0, .int .i64 0], .bool false]) (by simp [results, Try.results23, go_sem, *]) rfl ⟨rfl, by go_grown⟩
  · rw [tonS_t h1, tonA_t h1, tonO_t h1]
    obtain ⟨b0, b1⟩ := inR_t h1
    obtain ⟨b2, b3⟩ := ton_bd f m
    have q0 : 0 ≤ 28 + ton f m := by omega
    have q1 : 28 + ton f m ≤ 1000 := by omega
    have e1 := Lib.hid (show (28 + ton f m) % 7 = ton f m by omega)
    have e2 := Lib.hid (show (28 + ton f m) / 7 = 4 by omega)
    have e3 := Lib.hid (altV_t (keyB_mk ⟨b0, b1, b2, b3⟩))
    go_enter Try.func23, Try.ntmps23
    go_wp2_with fail
    have k0 : Blk (w.alloc (Obj.cells #[.int .i64 0, .int .i64 0, .int .i64 0] 27)) (w.heap.size) 27 #[.int .i64 0, .int .i64 0, .int .i64 0] := (by repeat' (first | (with_reducible assumption) | (with_reducible exact Blk.new _ _ _) | (with_reducible exact Blk.new' (by simp)) | (with_reducible refine Blk.alloc ?_ _) | (with_reducible refine Blk.drew ?_) | (with_reducible refine Blk.drewN ?_ _) | (with_reducible refine Blk.ne ?_ ?_ _) | omega | (simp; omega)))
    have hB : Below w.heap.size w (w.alloc (Obj.cells #[.int .i64 0, .int .i64 0, .int .i64 0] 27)) := by go_grown
    generalize (w.alloc (Obj.cells #[.int .i64 0, .int .i64 0, .int .i64 0] 27)) = c0 at *
    have k0_c0 : c0.cell? ⟨w.heap.size, 0, none⟩ = some (.int .i64 0) := Blk.get k0 rfl
    have k0_f0 : c0.frozen? ⟨w.heap.size, 0, none⟩ = false := Blk.frozen k0 0
    have k0_c1 : c0.cell? ⟨w.heap.size, 1, none⟩ = some (.int .i64 0) := Blk.get k0 rfl
    have k0_f1 : c0.frozen? ⟨w.heap.size, 1, none⟩ = false := Blk.frozen k0 1
    have k0_c2 : c0.cell? ⟨w.heap.size, 2, none⟩ = some (.int .i64 0) := Blk.get k0 rfl
    have k0_f2 : c0.frozen? ⟨w.heap.size, 2, none⟩ = false := Blk.frozen k0 2
    have k0_z : w.heap.size < c0.heap.size := Blk.lt k0
    go_call (isKey_any _ _) as e w1 ⟨rfl, rfl⟩
    go_wp2_with fail
    go_call (tonicPlace_any _ _ b0 b1 _) as e w1 ⟨rfl, rfl⟩
    go_wp2_with fail
    have HK := keyPitch_any f (28 + ton f m) q0 q1 c0
    rw [e1.out, e2.out, e3.out] at HK
    have HK := Lib.hid HK
    go_call (HK.out) as e c1 ⟨rfl, hb⟩
    replace k0 : Blk c1 (w.heap.size) 27 #[.int .i64 0, .int .i64 0, .int .i64 0] := Blk.pure (by repeat' (first | (with_reducible assumption) | (with_reducible exact Blk.new _ _ _) | (with_reducible exact Blk.new' (by simp)) | (with_reducible refine Blk.alloc ?_ _) | (with_reducible refine Blk.drew ?_) | (with_reducible refine Blk.drewN ?_ _) | (with_reducible refine Blk.ne ?_ ?_ _) | omega | (simp; omega))) hb
    replace hB := below_pure (w := w) (by go_grown) hb
    clear hb
    clear k0_c0 k0_f0 k0_c1 k0_f1 k0_c2 k0_f2 k0_z
    have k0_c0 : c1.cell? ⟨w.heap.size, 0, none⟩ = some (.int .i64 0) := Blk.get k0 rfl
    have k0_f0 : c1.frozen? ⟨w.heap.size, 0, none⟩ = false := Blk.frozen k0 0
    have k0_c1 : c1.cell? ⟨w.heap.size, 1, none⟩ = some (.int .i64 0) := Blk.get k0 rfl
    have k0_f1 : c1.frozen? ⟨w.heap.size, 1, none⟩ = false := Blk.frozen k0 1
    have k0_c2 : c1.cell? ⟨w.heap.size, 2, none⟩ = some (.int .i64 0) := Blk.get k0 rfl
    have k0_f2 : c1.frozen? ⟨w.heap.size, 2, none⟩ = false := Blk.frozen k0 2
    have k0_z : w.heap.size < c1.heap.size := Blk.lt k0
    go_wp2
    refine bodyPost_ret (v := .tuple #[.agg #[.int .i64 (ton f m), .int .i64 (alt f (ton f m)), .int .i64 4], .bool true]) (by simp [results, Try.results23, go_sem, *]) rfl ⟨rfl, by go_grown⟩

set_option maxHeartbeats 1000000 in
theorem specKeyTonic_any (f : Int) (m : Bool) (w : World) : Calls Try.prog 22 #[.int .i64 f, .bool m] w (Gives (.tuple #[.agg #[.int .i64 (tonS f m), .int .i64 (tonA f m), .int .i64 (tonO f)], .bool (inR f (-7) 7)]) w) := by
  cases h1 : inR f (-7) 7
  · rw [tonS_f h1, tonA_f h1, tonO_f h1]
    go_enter Try.func22, Try.ntmps22
    go_wp2_with (go_call (l1In_any _ _ _ _) as e w1 ⟨rfl, rfl⟩)
    refine bodyPost_ret (v := .tuple #[.agg #[.int .i64 0, .int .i64 0, .int .i64 0], .bool false]) (by simp [results, Try.results22, go_sem, *]) rfl ⟨rfl, by go_grown⟩
  · rw [tonS_t h1, tonA_t h1, tonO_t h1]
    obtain ⟨b0, b1⟩ := inR_t h1
    obtain ⟨b2, b3⟩ := ton_bd f m
    go_enter Try.func22, Try.ntmps22
    go_wp2_with fail
    have k0 : Blk (w.alloc (Obj.cells #[.int .i64 0, .int .i64 0, .int .i64 0] 27)) (w.heap.size) 27 #[.int .i64 0, .int .i64 0, .int .i64 0] := (by repeat' (first | (with_reducible assumption) | (with_reducible exact Blk.new _ _ _) | (with_reducible exact Blk.new' (by simp)) | (with_reducible refine Blk.alloc ?_ _) | (with_reducible refine Blk.drew ?_) | (with_reducible refine Blk.drewN ?_ _) | (with_reducible refine Blk.ne ?_ ?_ _) | omega | (simp; omega)))
    have hB : Below w.heap.size w (w.alloc (Obj.cells #[.int .i64 0, .int .i64 0, .int .i64 0] 27)) := by go_grown
    generalize (w.alloc (Obj.cells #[.int .i64 0, .int .i64 0, .int .i64 0] 27)) = c0 at *
    have k0_c0 : c0.cell? ⟨w.heap.size, 0, none⟩ = some (.int .i64 0) := Blk.get k0 rfl
    have k0_f0 : c0.frozen? ⟨w.heap.size, 0, none⟩ = false := Blk.frozen k0 0
    have k0_c1 : c0.cell? ⟨w.heap.size, 1, none⟩ = some (.int .i64 0) := Blk.get k0 rfl
    have k0_f1 : c0.frozen? ⟨w.heap.size, 1, none⟩ = false := Blk.frozen k0 1
    have k0_c2 : c0.cell? ⟨w.heap.size, 2, none⟩ = some (.int .i64 0) := Blk.get k0 rfl
    have k0_f2 : c0.frozen? ⟨w.heap.size, 2, none⟩ = false := Blk.frozen k0 2
    have k0_z : w.heap.size < c0.heap.size := Blk.lt k0
    go_call (l1In_any _ _ _ _) as e w1 ⟨rfl, rfl⟩
    go_wp2_with fail
    go_call (l3Tonic_any _ _ b0 b1 _) as e w1 ⟨rfl, rfl⟩
    go_wp2_with fail
    go_call (l3Alter_any _ _ b0 b1 b2 b3 _) as e c1 ⟨rfl, hb⟩
    replace k0 : Blk c1 (w.heap.size) 27 #[.int .i64 0, .int .i64 0, .int .i64 0] := Blk.pure (by repeat' (first | (with_reducible assumption) | (with_reducible exact Blk.new _ _ _) | (with_reducible exact Blk.new' (by simp)) | (with_reducible refine Blk.alloc ?_ _) | (with_reducible refine Blk.drew ?_) | (with_reducible refine Blk.drewN ?_ _) | (with_reducible refine Blk.ne ?_ ?_ _) | omega | (simp; omega))) hb
    replace hB := below_pure (w := w) (by go_grown) hb
    clear hb
    clear k0_c0 k0_f0 k0_c1 k0_f1 k0_c2 k0_f2 k0_z
    have k0_c0 : c1.cell? ⟨w.heap.size, 0, none⟩ = some (.int .i64 0) := Blk.get k0 rfl
    have k0_f0 : c1.frozen? ⟨w.heap.size, 0, none⟩ = false := Blk.frozen k0 0
    have k0_c1 : c1.cell? ⟨w.heap.size, 1, none⟩ = some (.int .i64 0) := Blk.get k0 rfl
    have k0_f1 : c1.frozen? ⟨w.heap.size, 1, none⟩ = false := Blk.frozen k0 1
    have k0_c2 : c1.cell? ⟨w.heap.size, 2, none⟩ = some (.int .i64 0) := Blk.get k0 rfl
    have k0_f2 : c1.frozen? ⟨w.heap.size, 2, none⟩ = false := Blk.frozen k0 2
    have k0_z : w.heap.size < c1.heap.size := Blk.lt k0
    go_wp2
    refine bodyPost_ret (v := .tuple #[.agg #[.int .i64 (ton f m), .int .i64 (alt f (ton f m)), .int .i64 4], .bool true]) (by simp [results, Try.results22, go_sem, *]) rfl ⟨rfl, by go_grown⟩

end Go.Proofs.Ytojkbeffhjcaiaa

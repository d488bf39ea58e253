/- The walks of the functions that add intervals to pitches. No condition. -/
import Derived.Test.YtmkkhbplfedpoaaIc
namespace Go.Proofs.Ytmkkhbplfedpoaa
open Go.RowKit

/-- The pitch with a place and a key: is it valid, and what are its parts. -/
def pwB (pl k : Int) : Bool := decide (0 ≤ pl) && pitchB (pl % 7) (k - natu pl) (pl / 7)
def addB (s a o x y : Int) : Bool := pitchB s a o && intB x y && pwB (placeV s a o + x) (keyV s a o + y)
theorem natu_nonneg (p : Int) (h0 : 0 ≤ p) (h1 : p ≤ 100) : 0 ≤ natu p ∧ natu p ≤ 200 := by
  have := half_bd (p % 7)
  unfold natu
  omega

set_option maxHeartbeats 1000000 in
theorem pitchWith_any (pl k : Int) (h0 : -100 ≤ pl) (h1 : pl ≤ 100) (h2 : -1000 ≤ k) (h3 : k ≤ 1000) (w : World) :
    Calls Try.prog 68 #[.int .i64 pl, .int .i64 k] w
      (Gives (.tuple #[.agg #[.int .i64 (ofX (pwB pl k) (pl % 7)), .int .i64 (ofX (pwB pl k) (k - natu pl)), .int .i64 (ofX (pwB pl k) (pl / 7))], .bool (pwB pl k)]) w) := by
  by_cases hn : pl < 0
  · have HR := Lib.hid (show pwB pl k = false by unfold pwB; rw [decide_eq_false (by omega)]; rfl)
    go_enter Try.func68, Try.ntmps68
    go_wp2
    refine bodyPost_ret (v := .tuple #[.agg #[.int .i64 0, .int .i64 0, .int .i64 0], .bool false]) (by simp [results, Try.results68, go_sem, *]) rfl ⟨by rw [HR.out]; rfl, by go_grown⟩
  have d0 : 0 ≤ pl := by omega
  have d1 : 0 ≤ pl / 7 := by omega
  have d2 : pl / 7 ≤ 100 := by omega
  have d3 : 0 ≤ pl % 7 := by omega
  have d4 : pl ≤ 1000 := by omega
  obtain ⟨d5, d6⟩ := natu_nonneg pl d0 h1
  cases hp : pitchB (pl % 7) (k - natu pl) (pl / 7)
  · have HR := Lib.hid (show pwB pl k = false by unfold pwB; rw [hp, decide_eq_true d0]; rfl)
    go_enter Try.func68, Try.ntmps68
    go_wp2_with fail
    have k0 : Blk (w.alloc (Obj.cells #[.int .i64 0, .int .i64 0, .int .i64 0] 27)) (w.heap.size) 27 #[.int .i64 0, .int .i64 0, .int .i64 0] := (by repeat' (first | (with_reducible assumption) | (with_reducible exact Blk.new _ _ _) | (with_reducible exact Blk.new' (by simp)) | (with_reducible refine Blk.alloc ?_ _) | (with_reducible refine Blk.drew ?_) | (with_reducible refine Blk.drewN ?_ _) | (with_reducible refine Blk.ne ?_ ?_ _) | omega | (simp; omega)))
    have hB : Below w.heap.size w (w.alloc (Obj.cells #[.int .i64 0, .int .i64 0, .int .i64 0] 27)) := by go_grown
    generalize (w.alloc (Obj.cells #[.int .i64 0, .int .i64 0, .int .i64 0] 27)) = c0 at *
    have k0_c0 : c0.cell? ⟨w.heap.size, 0, none⟩ = some (.int .i64 0) := Blk.get k0 rfl
    have k0_f0 : c0.frozen? ⟨w.heap.size, 0, none⟩ = false := Blk.frozen k0 0
    have k0_c1 : c0.cell? ⟨w.heap.size, 1, none⟩ = some (.int .i64 0) := Blk.get k0 rfl
    have k0_f1 : c0.frozen? ⟨w.heap.size, 1, none⟩ = false := Blk.frozen k0 1
    have k0_c2 : c0.cell? ⟨w.heap.size, 2, none⟩ = some (.int .i64 0) := Blk.get k0 rfl
    have k0_f2 : c0.frozen? ⟨w.heap.size, 2, none⟩ = false := Blk.frozen k0 2
    have k0_z : w.heap.size < c0.heap.size := Blk.lt k0
    go_call (placeHalves_any _ d0 d4 _) as e w1 ⟨rfl, rfl⟩
    go_wp2_with fail
    go_call (pitchValid_any _ _ _ _) as e c1 ⟨rfl, hb⟩
    replace k0 : Blk c1 (w.heap.size) 27 #[.int .i64 0, .int .i64 0, .int .i64 0] := Blk.pure (by repeat' (first | (with_reducible assumption) | (with_reducible exact Blk.new _ _ _) | (with_reducible exact Blk.new' (by simp)) | (with_reducible refine Blk.alloc ?_ _) | (with_reducible refine Blk.drew ?_) | (with_reducible refine Blk.drewN ?_ _) | (with_reducible refine Blk.ne ?_ ?_ _) | omega | (simp; omega))) hb
    have k1 : Blk c1 (c0.heap.size) 27 #[.int .i64 (pl % 7), .int .i64 (k - natu pl), .int .i64 (pl / 7)] := Blk.pure (by repeat' (first | (with_reducible assumption) | (with_reducible exact Blk.new _ _ _) | (with_reducible exact Blk.new' (by simp)) | (with_reducible refine Blk.alloc ?_ _) | (with_reducible refine Blk.drew ?_) | (with_reducible refine Blk.drewN ?_ _) | (with_reducible refine Blk.ne ?_ ?_ _) | omega | (simp; omega))) hb
    replace hB := below_pure (w := w) (by go_grown) hb
    clear hb
    clear k0_c0 k0_f0 k0_c1 k0_f1 k0_c2 k0_f2 k0_z
    have k0_c0 : c1.cell? ⟨w.heap.size, 0, none⟩ = some (.int .i64 0) := Blk.get k0 rfl
    have k0_f0 : c1.frozen? ⟨w.heap.size, 0, none⟩ = false := Blk.frozen k0 0
    have k0_c1 : c1.cell? ⟨w.heap.size, 1, none⟩ = some (.int .i64 0) := Blk.get k0 rfl
    have k0_f1 : c1.frozen? ⟨w.heap.size, 1, none⟩ = false := Blk.frozen k0 1
    have k0_c2 : c1.cell? ⟨w.heap.size, 2, none⟩ = some (.int .i64 0) := Blk.get k0 rfl
    have k0_f2 : c1.frozen? ⟨w.heap.size, 2, none⟩ = false := Blk.frozen k0 2
    have k0_z : w.heap.size < c1.heap.size := Blk.lt k0
    have k1_c0 : c1.cell? ⟨c0.heap.size, 0, none⟩ = some (.int .i64 (pl % 7)) := Blk.get k1 rfl
    have k1_f0 : c1.frozen? ⟨c0.heap.size, 0, none⟩ = false := Blk.frozen k1 0
    have k1_c1 : c1.cell? ⟨c0.heap.size, 1, none⟩ = some (.int .i64 (k - natu pl)) := Blk.get k1 rfl
    have k1_f1 : c1.frozen? ⟨c0.heap.size, 1, none⟩ = false := Blk.frozen k1 1
    have k1_c2 : c1.cell? ⟨c0.heap.size, 2, none⟩ = some (.int .i64 (pl / 7)) := Blk.get k1 rfl
    have k1_f2 : c1.frozen? ⟨c0.heap.size, 2, none⟩ = false := Blk.frozen k1 2
    have k1_z : c0.heap.size < c1.heap.size := Blk.lt k1
    go_wp2
    refine bodyPost_ret (v := .tuple #[.agg #[.int .i64 0, .int .i64 0, .int .i64 0], .bool false]) (by simp [results, Try.results68, go_sem, *]) rfl ⟨by rw [HR.out]; rfl, by go_grown⟩
  · have HR := Lib.hid (show pwB pl k = true by unfold pwB; rw [hp, decide_eq_true d0]; rfl)
    go_enter Try.func68, Try.ntmps68
    go_wp2_with fail
    have k0 : Blk (w.alloc (Obj.cells #[.int .i64 0, .int .i64 0, .int .i64 0] 27)) (w.heap.size) 27 #[.int .i64 0, .int .i64 0, .int .i64 0] := (by repeat' (first | (with_reducible assumption) | (with_reducible exact Blk.new _ _ _) | (with_reducible exact Blk.new' (by simp)) | (with_reducible refine Blk.alloc ?_ _) | (with_reducible refine Blk.drew ?_) | (with_reducible refine Blk.drewN ?_ _) | (with_reducible refine Blk.ne ?_ ?_ _) | omega | (simp; omega)))
    have hB : Below w.heap.size w (w.alloc (Obj.cells #[.int .i64 0, .int .i64 0, .int .i64 0] 27)) := by go_grown
    generalize (w.alloc (Obj.cells #[.int .i64 0, .int .i64 0, .int .i64 0] 27)) = c0 at *
    have k0_c0 : c0.cell? ⟨w.heap.size, 0, none⟩ = some (.int .i64 0) := Blk.get k0 rfl
    have k0_f0 : c0.frozen? ⟨w.heap.size, 0, none⟩ = false := Blk.frozen k0 0
    have k0_c1 : c0.cell? ⟨w.heap.size, 1, none⟩ = some (.int .i64 0) := Blk.get k0 rfl
    have k0_f1 : c0.frozen? ⟨w.heap.size, 1, none⟩ = false := Blk.frozen k0 1
    have k0_c2 : c0.cell? ⟨w.heap.size, 2, none⟩ = some (.int .i64 0) := Blk.get k0 rfl
    have k0_f2 : c0.frozen? ⟨w.heap.size, 2, none⟩ = false := Blk.frozen k0 2
    have k0_z : w.heap.size < c0.heap.size := Blk.lt k0
    go_call (placeHalves_any _ d0 d4 _) as e w1 ⟨rfl, rfl⟩
    go_wp2_with fail
    go_call (pitchValid_any _ _ _ _) as e c1 ⟨rfl, hb⟩
    replace k0 : Blk c1 (w.heap.size) 27 #[.int .i64 0, .int .i64 0, .int .i64 0] := Blk.pure (by repeat' (first | (with_reducible assumption) | (with_reducible exact Blk.new _ _ _) | (with_reducible exact Blk.new' (by simp)) | (with_reducible refine Blk.alloc ?_ _) | (with_reducible refine Blk.drew ?_) | (with_reducible refine Blk.drewN ?_ _) | (with_reducible refine Blk.ne ?_ ?_ _) | omega | (simp; omega))) hb
    have k1 : Blk c1 (c0.heap.size) 27 #[.int .i64 (pl % 7), .int .i64 (k - natu pl), .int .i64 (pl / 7)] := Blk.pure (by repeat' (first | (with_reducible assumption) | (with_reducible exact Blk.new _ _ _) | (with_reducible exact Blk.new' (by simp)) | (with_reducible refine Blk.alloc ?_ _) | (with_reducible refine Blk.drew ?_) | (with_reducible refine Blk.drewN ?_ _) | (with_reducible refine Blk.ne ?_ ?_ _) | omega | (simp; omega))) hb
    replace hB := below_pure (w := w) (by go_grown) hb
    clear hb
    clear k0_c0 k0_f0 k0_c1 k0_f1 k0_c2 k0_f2 k0_z
    have k0_c0 : c1.cell? ⟨w.heap.size, 0, none⟩ = some (.int .i64 0) := Blk.get k0 rfl
    have k0_f0 : c1.frozen? ⟨w.heap.size, 0, none⟩ = false := Blk.frozen k0 0
    have k0_c1 : c1.cell? ⟨w.heap.size, 1, none⟩ = some (.int .i64 0) := Blk.get k0 rfl
    have k0_f1 : c1.frozen? ⟨w.heap.size, 1, none⟩ = false := Blk.frozen k0 1
    have k0_c2 : c1.cell? ⟨w.heap.size, 2, none⟩ = some (.int .i64 0) := Blk.get k0 rfl
    have k0_f2 : c1.frozen? ⟨w.heap.size, 2, none⟩ = false := Blk.frozen k0 2
    have k0_z : w.heap.size < c1.heap.size := Blk.lt k0
    have k1_c0 : c1.cell? ⟨c0.heap.size, 0, none⟩ = some (.int .i64 (pl % 7)) := Blk.get k1 rfl
    have k1_f0 : c1.frozen? ⟨c0.heap.size, 0, none⟩ = false := Blk.frozen k1 0
    have k1_c1 : c1.cell? ⟨c0.heap.size, 1, none⟩ = some (.int .i64 (k - natu pl)) := Blk.get k1 rfl
    have k1_f1 : c1.frozen? ⟨c0.heap.size, 1, none⟩ = false := Blk.frozen k1 1
    have k1_c2 : c1.cell? ⟨c0.heap.size, 2, none⟩ = some (.int .i64 (pl / 7)) := Blk.get k1 rfl
    have k1_f2 : c1.frozen? ⟨c0.heap.size, 2, none⟩ = false := Blk.frozen k1 2
    have k1_z : c0.heap.size < c1.heap.size := Blk.lt k1
    go_wp2
    refine bodyPost_ret (v := .tuple #[.agg #[.int .i64 (pl % 7), .int .i64 (k - natu pl), .int .i64 (pl / 7)], .bool true]) (by simp [results, Try.results68, go_sem, *]) rfl ⟨by rw [HR.out]; rfl, by go_grown⟩

set_option maxHeartbeats 4000000 in
theorem addInterval_any (s a o x y : Int) (w : World) (pl k : Int) (hx : placeV s a o + x = pl) (hy : keyV s a o + y = k) :
    Calls Try.prog 56 #[.agg #[.int .i64 s, .int .i64 a, .int .i64 o], .agg #[.int .i64 x, .int .i64 y]] w
      (Gives (.tuple #[.agg #[.int .i64 (ofX (addB s a o x y) (pl % 7)), .int .i64 (ofX (addB s a o x y) (k - natu pl)), .int .i64 (ofX (addB s a o x y) (pl / 7))], .bool (addB s a o x y)]) w) := by
  have HA := Lib.hid (show addB s a o x y = (pitchB s a o && intB x y && pwB pl k) by rw [← hx, ← hy]; rfl)
  obtain ⟨b0, b1⟩ := placeV_bd s a o
  obtain ⟨b4, b5⟩ := keyV_bd s a o
  cases hp : pitchB s a o
  · have HR := Lib.hid (show addB s a o x y = false by rw [HA.out, hp]; rfl)
    clear hx hy
    go_enter Try.func56, Try.ntmps56
    go_wp2_with fail
    have k0 : Blk (((w.alloc (Obj.cells #[.int .i64 s, .int .i64 a, .int .i64 o] 27)).alloc (Obj.cells #[.int .i64 x, .int .i64 y] 47)).alloc (Obj.cells #[.int .i64 0, .int .i64 0, .int .i64 0] 27)) (w.heap.size) 27 #[.int .i64 s, .int .i64 a, .int .i64 o] := (by repeat' (first | (with_reducible assumption) | (with_reducible exact Blk.new _ _ _) | (with_reducible exact Blk.new' (by simp)) | (with_reducible refine Blk.alloc ?_ _) | (with_reducible refine Blk.drew ?_) | (with_reducible refine Blk.drewN ?_ _) | (with_reducible refine Blk.ne ?_ ?_ _) | omega | (simp; omega)))
    have k1 : Blk (((w.alloc (Obj.cells #[.int .i64 s, .int .i64 a, .int .i64 o] 27)).alloc (Obj.cells #[.int .i64 x, .int .i64 y] 47)).alloc (Obj.cells #[.int .i64 0, .int .i64 0, .int .i64 0] 27)) (w.heap.size + 1) 47 #[.int .i64 x, .int .i64 y] := (by repeat' (first | (with_reducible assumption) | (with_reducible exact Blk.new _ _ _) | (with_reducible exact Blk.new' (by simp)) | (with_reducible refine Blk.alloc ?_ _) | (with_reducible refine Blk.drew ?_) | (with_reducible refine Blk.drewN ?_ _) | (with_reducible refine Blk.ne ?_ ?_ _) | omega | (simp; omega)))
    have k2 : Blk (((w.alloc (Obj.cells #[.int .i64 s, .int .i64 a, .int .i64 o] 27)).alloc (Obj.cells #[.int .i64 x, .int .i64 y] 47)).alloc (Obj.cells #[.int .i64 0, .int .i64 0, .int .i64 0] 27)) (w.heap.size + 2) 27 #[.int .i64 0, .int .i64 0, .int .i64 0] := (by repeat' (first | (with_reducible assumption) | (with_reducible exact Blk.new _ _ _) | (with_reducible exact Blk.new' (by simp)) | (with_reducible refine Blk.alloc ?_ _) | (with_reducible refine Blk.drew ?_) | (with_reducible refine Blk.drewN ?_ _) | (with_reducible refine Blk.ne ?_ ?_ _) | omega | (simp; omega)))
    have hB : Below w.heap.size w (((w.alloc (Obj.cells #[.int .i64 s, .int .i64 a, .int .i64 o] 27)).alloc (Obj.cells #[.int .i64 x, .int .i64 y] 47)).alloc (Obj.cells #[.int .i64 0, .int .i64 0, .int .i64 0] 27)) := by go_grown
    generalize (((w.alloc (Obj.cells #[.int .i64 s, .int .i64 a, .int .i64 o] 27)).alloc (Obj.cells #[.int .i64 x, .int .i64 y] 47)).alloc (Obj.cells #[.int .i64 0, .int .i64 0, .int .i64 0] 27)) = c0 at *
    have k0_c0 : c0.cell? ⟨w.heap.size, 0, none⟩ = some (.int .i64 s) := Blk.get k0 rfl
    have k0_f0 : c0.frozen? ⟨w.heap.size, 0, none⟩ = false := Blk.frozen k0 0
    have k0_c1 : c0.cell? ⟨w.heap.size, 1, none⟩ = some (.int .i64 a) := Blk.get k0 rfl
    have k0_f1 : c0.frozen? ⟨w.heap.size, 1, none⟩ = false := Blk.frozen k0 1
    have k0_c2 : c0.cell? ⟨w.heap.size, 2, none⟩ = some (.int .i64 o) := Blk.get k0 rfl
    have k0_f2 : c0.frozen? ⟨w.heap.size, 2, none⟩ = false := Blk.frozen k0 2
    have k0_z : w.heap.size < c0.heap.size := Blk.lt k0
    have k1_c0 : c0.cell? ⟨w.heap.size + 1, 0, none⟩ = some (.int .i64 x) := Blk.get k1 rfl
    have k1_f0 : c0.frozen? ⟨w.heap.size + 1, 0, none⟩ = false := Blk.frozen k1 0
    have k1_c1 : c0.cell? ⟨w.heap.size + 1, 1, none⟩ = some (.int .i64 y) := Blk.get k1 rfl
    have k1_f1 : c0.frozen? ⟨w.heap.size + 1, 1, none⟩ = false := Blk.frozen k1 1
    have k1_z : w.heap.size + 1 < c0.heap.size := Blk.lt k1
    have k2_c0 : c0.cell? ⟨w.heap.size + 2, 0, none⟩ = some (.int .i64 0) := Blk.get k2 rfl
    have k2_f0 : c0.frozen? ⟨w.heap.size + 2, 0, none⟩ = false := Blk.frozen k2 0
    have k2_c1 : c0.cell? ⟨w.heap.size + 2, 1, none⟩ = some (.int .i64 0) := Blk.get k2 rfl
    have k2_f1 : c0.frozen? ⟨w.heap.size + 2, 1, none⟩ = false := Blk.frozen k2 1
    have k2_c2 : c0.cell? ⟨w.heap.size + 2, 2, none⟩ = some (.int .i64 0) := Blk.get k2 rfl
    have k2_f2 : c0.frozen? ⟨w.heap.size + 2, 2, none⟩ = false := Blk.frozen k2 2
    have k2_z : w.heap.size + 2 < c0.heap.size := Blk.lt k2
    go_call (pitchValid_any _ _ _ _) as e c1 ⟨rfl, hb⟩
    replace k0 : Blk c1 (w.heap.size) 27 #[.int .i64 s, .int .i64 a, .int .i64 o] := Blk.pure (by repeat' (first | (with_reducible assumption) | (with_reducible exact Blk.new _ _ _) | (with_reducible exact Blk.new' (by simp)) | (with_reducible refine Blk.alloc ?_ _) | (with_reducible refine Blk.drew ?_) | (with_reducible refine Blk.drewN ?_ _) | (with_reducible refine Blk.ne ?_ ?_ _) | omega | (simp; omega))) hb
    replace k1 : Blk c1 (w.heap.size + 1) 47 #[.int .i64 x, .int .i64 y] := Blk.pure (by repeat' (first | (with_reducible assumption) | (with_reducible exact Blk.new _ _ _) | (with_reducible exact Blk.new' (by simp)) | (with_reducible refine Blk.alloc ?_ _) | (with_reducible refine Blk.drew ?_) | (with_reducible refine Blk.drewN ?_ _) | (with_reducible refine Blk.ne ?_ ?_ _) | omega | (simp; omega))) hb
    replace k2 : Blk c1 (w.heap.size + 2) 27 #[.int .i64 0, .int .i64 0, .int .i64 0] := Blk.pure (by repeat' (first | (with_reducible assumption) | (with_reducible exact Blk.new _ _ _) | (with_reducible exact Blk.new' (by simp)) | (with_reducible refine Blk.alloc ?_ _) | (with_reducible refine Blk.drew ?_) | (with_reducible refine Blk.drewN ?_ _) | (with_reducible refine Blk.ne ?_ ?_ _) | omega | (simp; omega))) hb
    replace hB := below_pure (w := w) (by go_grown) hb
    clear hb
    clear k0_c0 k0_f0 k0_c1 k0_f1 k0_c2 k0_f2 k0_z k1_c0 k1_f0 k1_c1 k1_f1 k1_z k2_c0 k2_f0 k2_c1 k2_f1 k2_c2 k2_f2 k2_z
    have k0_c0 : c1.cell? ⟨w.heap.size, 0, none⟩ = some (.int .i64 s) := Blk.get k0 rfl
    have k0_f0 : c1.frozen? ⟨w.heap.size, 0, none⟩ = false := Blk.frozen k0 0
    have k0_c1 : c1.cell? ⟨w.heap.size, 1, none⟩ = some (.int .i64 a) := Blk.get k0 rfl
    have k0_f1 : c1.frozen? ⟨w.heap.size, 1, none⟩ = false := Blk.frozen k0 1
    have k0_c2 : c1.cell? ⟨w.heap.size, 2, none⟩ = some (.int .i64 o) := Blk.get k0 rfl
    have k0_f2 : c1.frozen? ⟨w.heap.size, 2, none⟩ = false := Blk.frozen k0 2
    have k0_z : w.heap.size < c1.heap.size := Blk.lt k0
    have k1_c0 : c1.cell? ⟨w.heap.size + 1, 0, none⟩ = some (.int .i64 x) := Blk.get k1 rfl
    have k1_f0 : c1.frozen? ⟨w.heap.size + 1, 0, none⟩ = false := Blk.frozen k1 0
    have k1_c1 : c1.cell? ⟨w.heap.size + 1, 1, none⟩ = some (.int .i64 y) := Blk.get k1 rfl
    have k1_f1 : c1.frozen? ⟨w.heap.size + 1, 1, none⟩ = false := Blk.frozen k1 1
    have k1_z : w.heap.size + 1 < c1.heap.size := Blk.lt k1
    have k2_c0 : c1.cell? ⟨w.heap.size + 2, 0, none⟩ = some (.int .i64 0) := Blk.get k2 rfl
    have k2_f0 : c1.frozen? ⟨w.heap.size + 2, 0, none⟩ = false := Blk.frozen k2 0
    have k2_c1 : c1.cell? ⟨w.heap.size + 2, 1, none⟩ = some (.int .i64 0) := Blk.get k2 rfl
    have k2_f1 : c1.frozen? ⟨w.heap.size + 2, 1, none⟩ = false := Blk.frozen k2 1
    have k2_c2 : c1.cell? ⟨w.heap.size + 2, 2, none⟩ = some (.int .i64 0) := Blk.get k2 rfl
    have k2_f2 : c1.frozen? ⟨w.heap.size + 2, 2, none⟩ = false := Blk.frozen k2 2
    have k2_z : w.heap.size + 2 < c1.heap.size := Blk.lt k2
    go_wp2
    refine bodyPost_ret (v := .tuple #[.agg #[.int .i64 0, .int .i64 0, .int .i64 0], .bool false]) (by simp [results, Try.results56, go_sem, *]) rfl ⟨by rw [HR.out]; rfl, by go_grown⟩
  cases hq : intB x y
  · have HR := Lib.hid (show addB s a o x y = false by rw [HA.out, hp, hq]; rfl)
    clear hx hy
    go_enter Try.func56, Try.ntmps56
    go_wp2_with fail
    have k0 : Blk (((w.alloc (Obj.cells #[.int .i64 s, .int .i64 a, .int .i64 o] 27)).alloc (Obj.cells #[.int .i64 x, .int .i64 y] 47)).alloc (Obj.cells #[.int .i64 0, .int .i64 0, .int .i64 0] 27)) (w.heap.size) 27 #[.int .i64 s, .int .i64 a, .int .i64 o] := (by repeat' (first | (with_reducible assumption) | (with_reducible exact Blk.new _ _ _) | (with_reducible exact Blk.new' (by simp)) | (with_reducible refine Blk.alloc ?_ _) | (with_reducible refine Blk.drew ?_) | (with_reducible refine Blk.drewN ?_ _) | (with_reducible refine Blk.ne ?_ ?_ _) | omega | (simp; omega)))
    have k1 : Blk (((w.alloc (Obj.cells #[.int .i64 s, .int .i64 a, .int .i64 o] 27)).alloc (Obj.cells #[.int .i64 x, .int .i64 y] 47)).alloc (Obj.cells #[.int .i64 0, .int .i64 0, .int .i64 0] 27)) (w.heap.size + 1) 47 #[.int .i64 x, .int .i64 y] := (by repeat' (first | (with_reducible assumption) | (with_reducible exact Blk.new _ _ _) | (with_reducible exact Blk.new' (by simp)) | (with_reducible refine Blk.alloc ?_ _) | (with_reducible refine Blk.drew ?_) | (with_reducible refine Blk.drewN ?_ _) | (with_reducible refine Blk.ne ?_ ?_ _) | omega | (simp; omega)))
    have k2 : Blk (((w.alloc (Obj.cells #[.int .i64 s, .int .i64 a, .int .i64 o] 27)).alloc (Obj.cells #[.int .i64 x, .int .i64 y] 47)).alloc (Obj.cells #[.int .i64 0, .int .i64 0, .int .i64 0] 27)) (w.heap.size + 2) 27 #[.int .i64 0, .int .i64 0, .int .i64 0] := (by repeat' (first | (with_reducible assumption) | (with_reducible exact Blk.new _ _ _) | (with_reducible exact Blk.new' (by simp)) | (with_reducible refine Blk.alloc ?_ _) | (with_reducible refine Blk.drew ?_) | (with_reducible refine Blk.drewN ?_ _) | (with_reducible refine Blk.ne ?_ ?_ _) | omega | (simp; omega)))
    have hB : Below w.heap.size w (((w.alloc (Obj.cells #[.int .i64 s, .int .i64 a, .int .i64 o] 27)).alloc (Obj.cells #[.int .i64 x, .int .i64 y] 47)).alloc (Obj.cells #[.int .i64 0, .int .i64 0, .int .i64 0] 27)) := by go_grown
    generalize (((w.alloc (Obj.cells #[.int .i64 s, .int .i64 a, .int .i64 o] 27)).alloc (Obj.cells #[.int .i64 x, .int .i64 y] 47)).alloc (Obj.cells #[.int .i64 0, .int .i64 0, .int .i64 0] 27)) = c0 at *
    have k0_c0 : c0.cell? ⟨w.heap.size, 0, none⟩ = some (.int .i64 s) := Blk.get k0 rfl
    have k0_f0 : c0.frozen? ⟨w.heap.size, 0, none⟩ = false := Blk.frozen k0 0
    have k0_c1 : c0.cell? ⟨w.heap.size, 1, none⟩ = some (.int .i64 a) := Blk.get k0 rfl
    have k0_f1 : c0.frozen? ⟨w.heap.size, 1, none⟩ = false := Blk.frozen k0 1
    have k0_c2 : c0.cell? ⟨w.heap.size, 2, none⟩ = some (.int .i64 o) := Blk.get k0 rfl
    have k0_f2 : c0.frozen? ⟨w.heap.size, 2, none⟩ = false := Blk.frozen k0 2
    have k0_z : w.heap.size < c0.heap.size := Blk.lt k0
    have k1_c0 : c0.cell? ⟨w.heap.size + 1, 0, none⟩ = some (.int .i64 x) := Blk.get k1 rfl
    have k1_f0 : c0.frozen? ⟨w.heap.size + 1, 0, none⟩ = false := Blk.frozen k1 0
    have k1_c1 : c0.cell? ⟨w.heap.size + 1, 1, none⟩ = some (.int .i64 y) := Blk.get k1 rfl
    have k1_f1 : c0.frozen? ⟨w.heap.size + 1, 1, none⟩ = false := Blk.frozen k1 1
    have k1_z : w.heap.size + 1 < c0.heap.size := Blk.lt k1
    have k2_c0 : c0.cell? ⟨w.heap.size + 2, 0, none⟩ = some (.int .i64 0) := Blk.get k2 rfl
    have k2_f0 : c0.frozen? ⟨w.heap.size + 2, 0, none⟩ = false := Blk.frozen k2 0
    have k2_c1 : c0.cell? ⟨w.heap.size + 2, 1, none⟩ = some (.int .i64 0) := Blk.get k2 rfl
    have k2_f1 : c0.frozen? ⟨w.heap.size + 2, 1, none⟩ = false := Blk.frozen k2 1
    have k2_c2 : c0.cell? ⟨w.heap.size + 2, 2, none⟩ = some (.int .i64 0) := Blk.get k2 rfl
    have k2_f2 : c0.frozen? ⟨w.heap.size + 2, 2, none⟩ = false := Blk.frozen k2 2
    have k2_z : w.heap.size + 2 < c0.heap.size := Blk.lt k2
    go_call (pitchValid_any _ _ _ _) as e c1 ⟨rfl, hb⟩
    replace k0 : Blk c1 (w.heap.size) 27 #[.int .i64 s, .int .i64 a, .int .i64 o] := Blk.pure (by repeat' (first | (with_reducible assumption) | (with_reducible exact Blk.new _ _ _) | (with_reducible exact Blk.new' (by simp)) | (with_reducible refine Blk.alloc ?_ _) | (with_reducible refine Blk.drew ?_) | (with_reducible refine Blk.drewN ?_ _) | (with_reducible refine Blk.ne ?_ ?_ _) | omega | (simp; omega))) hb
    replace k1 : Blk c1 (w.heap.size + 1) 47 #[.int .i64 x, .int .i64 y] := Blk.pure (by repeat' (first | (with_reducible assumption) | (with_reducible exact Blk.new _ _ _) | (with_reducible exact Blk.new' (by simp)) | (with_reducible refine Blk.alloc ?_ _) | (with_reducible refine Blk.drew ?_) | (with_reducible refine Blk.drewN ?_ _) | (with_reducible refine Blk.ne ?_ ?_ _) | omega | (simp; omega))) hb
    replace k2 : Blk c1 (w.heap.size + 2) 27 #[.int .i64 0, .int .i64 0, .int .i64 0] := Blk.pure (by repeat' (first | (with_reducible assumption) | (with_reducible exact Blk.new _ _ _) | (with_reducible exact Blk.new' (by simp)) | (with_reducible refine Blk.alloc ?_ _) | (with_reducible refine Blk.drew ?_) | (with_reducible refine Blk.drewN ?_ _) | (with_reducible refine Blk.ne ?_ ?_ _) | omega | (simp; omega))) hb
    replace hB := below_pure (w := w) (by go_grown) hb
    clear hb
    clear k0_c0 k0_f0 k0_c1 k0_f1 k0_c2 k0_f2 k0_z k1_c0 k1_f0 k1_c1 k1_f1 k1_z k2_c0 k2_f0 k2_c1 k2_f1 k2_c2 k2_f2 k2_z
    have k0_c0 : c1.cell? ⟨w.heap.size, 0, none⟩ = some (.int .i64 s) := Blk.get k0 rfl
    have k0_f0 : c1.frozen? ⟨w.heap.size, 0, none⟩ = false := Blk.frozen k0 0
    have k0_c1 : c1.cell? ⟨w.heap.size, 1, none⟩ = some (.int .i64 a) := Blk.get k0 rfl
    have k0_f1 : c1.frozen? ⟨w.heap.size, 1, none⟩ = false := Blk.frozen k0 1
    have k0_c2 : c1.cell? ⟨w.heap.size, 2, none⟩ = some (.int .i64 o) := Blk.get k0 rfl
    have k0_f2 : c1.frozen? ⟨w.heap.size, 2, none⟩ = false := Blk.frozen k0 2
    have k0_z : w.heap.size < c1.heap.size := Blk.lt k0
    have k1_c0 : c1.cell? ⟨w.heap.size + 1, 0, none⟩ = some (.int .i64 x) := Blk.get k1 rfl
    have k1_f0 : c1.frozen? ⟨w.heap.size + 1, 0, none⟩ = false := Blk.frozen k1 0
    have k1_c1 : c1.cell? ⟨w.heap.size + 1, 1, none⟩ = some (.int .i64 y) := Blk.get k1 rfl
    have k1_f1 : c1.frozen? ⟨w.heap.size + 1, 1, none⟩ = false := Blk.frozen k1 1
    have k1_z : w.heap.size + 1 < c1.heap.size := Blk.lt k1
    have k2_c0 : c1.cell? ⟨w.heap.size + 2, 0, none⟩ = some (.int .i64 0) := Blk.get k2 rfl
    have k2_f0 : c1.frozen? ⟨w.heap.size + 2, 0, none⟩ = false := Blk.frozen k2 0
    have k2_c1 : c1.cell? ⟨w.heap.size + 2, 1, none⟩ = some (.int .i64 0) := Blk.get k2 rfl
    have k2_f1 : c1.frozen? ⟨w.heap.size + 2, 1, none⟩ = false := Blk.frozen k2 1
    have k2_c2 : c1.cell? ⟨w.heap.size + 2, 2, none⟩ = some (.int .i64 0) := Blk.get k2 rfl
    have k2_f2 : c1.frozen? ⟨w.heap.size + 2, 2, none⟩ = false := Blk.frozen k2 2
    have k2_z : w.heap.size + 2 < c1.heap.size := Blk.lt k2
    go_wp2_with fail
    go_call (intervalValid_any _ _ _) as e c2 ⟨rfl, hb⟩
    replace k0 : Blk c2 (w.heap.size) 27 #[.int .i64 s, .int .i64 a, .int .i64 o] := Blk.pure (by repeat' (first | (with_reducible assumption) | (with_reducible exact Blk.new _ _ _) | (with_reducible exact Blk.new' (by simp)) | (with_reducible refine Blk.alloc ?_ _) | (with_reducible refine Blk.drew ?_) | (with_reducible refine Blk.drewN ?_ _) | (with_reducible refine Blk.ne ?_ ?_ _) | omega | (simp; omega))) hb
    replace k1 : Blk c2 (w.heap.size + 1) 47 #[.int .i64 x, .int .i64 y] := Blk.pure (by repeat' (first | (with_reducible assumption) | (with_reducible exact Blk.new _ _ _) | (with_reducible exact Blk.new' (by simp)) | (with_reducible refine Blk.alloc ?_ _) | (with_reducible refine Blk.drew ?_) | (with_reducible refine Blk.drewN ?_ _) | (with_reducible refine Blk.ne ?_ ?_ _) | omega | (simp; omega))) hb
    replace k2 : Blk c2 (w.heap.size + 2) 27 #[.int .i64 0, .int .i64 0, .int .i64 0] := Blk.pure (by repeat' (first | (with_reducible assumption) | (with_reducible exact Blk.new _ _ _) | (with_reducible exact Blk.new' (by simp)) | (with_reducible refine Blk.alloc ?_ _) | (with_reducible refine Blk.drew ?_) | (with_reducible refine Blk.drewN ?_ _) | (with_reducible refine Blk.ne ?_ ?_ _) | omega | (simp; omega))) hb
    replace hB := below_pure (w := w) (by go_grown) hb
    clear hb
    clear k0_c0 k0_f0 k0_c1 k0_f1 k0_c2 k0_f2 k0_z k1_c0 k1_f0 k1_c1 k1_f1 k1_z k2_c0 k2_f0 k2_c1 k2_f1 k2_c2 k2_f2 k2_z
    have k0_c0 : c2.cell? ⟨w.heap.size, 0, none⟩ = some (.int .i64 s) := Blk.get k0 rfl
    have k0_f0 : c2.frozen? ⟨w.heap.size, 0, none⟩ = false := Blk.frozen k0 0
    have k0_c1 : c2.cell? ⟨w.heap.size, 1, none⟩ = some (.int .i64 a) := Blk.get k0 rfl
    have k0_f1 : c2.frozen? ⟨w.heap.size, 1, none⟩ = false := Blk.frozen k0 1
    have k0_c2 : c2.cell? ⟨w.heap.size, 2, none⟩ = some (.int .i64 o) := Blk.get k0 rfl
    have k0_f2 : c2.frozen? ⟨w.heap.size, 2, none⟩ = false := Blk.frozen k0 2
    have k0_z : w.heap.size < c2.heap.size := Blk.lt k0
    have k1_c0 : c2.cell? ⟨w.heap.size + 1, 0, none⟩ = some (.int .i64 x) := Blk.get k1 rfl
    have k1_f0 : c2.frozen? ⟨w.heap.size + 1, 0, none⟩ = false := Blk.frozen k1 0
    have k1_c1 : c2.cell? ⟨w.heap.size + 1, 1, none⟩ = some (.int .i64 y) := Blk.get k1 rfl
    have k1_f1 : c2.frozen? ⟨w.heap.size + 1, 1, none⟩ = false := Blk.frozen k1 1
    have k1_z : w.heap.size + 1 < c2.heap.size := Blk.lt k1
    have k2_c0 : c2.cell? ⟨w.heap.size + 2, 0, none⟩ = some (.int .i64 0) := Blk.get k2 rfl
    have k2_f0 : c2.frozen? ⟨w.heap.size + 2, 0, none⟩ = false := Blk.frozen k2 0
    have k2_c1 : c2.cell? ⟨w.heap.size + 2, 1, none⟩ = some (.int .i64 0) := Blk.get k2 rfl
    have k2_f1 : c2.frozen? ⟨w.heap.size + 2, 1, none⟩ = false := Blk.frozen k2 1
    have k2_c2 : c2.cell? ⟨w.heap.size + 2, 2, none⟩ = some (.int .i64 0) := Blk.get k2 rfl
    have k2_f2 : c2.frozen? ⟨w.heap.size + 2, 2, none⟩ = false := Blk.frozen k2 2
    have k2_z : w.heap.size + 2 < c2.heap.size := Blk.lt k2
    go_wp2
    refine bodyPost_ret (v := .tuple #[.agg #[.int .i64 0, .int .i64 0, .int .i64 0], .bool false]) (by simp [results, Try.results56, go_sem, *]) rfl ⟨by rw [HR.out]; rfl, by go_grown⟩
  obtain ⟨e0, e1, e2, e3, -, -⟩ := intB_t hq
  have p0 : -100 ≤ pl := by omega
  have p1 : pl ≤ 100 := by omega
  have p2 : -1000 ≤ k := by omega
  have p3 : k ≤ 1000 := by omega
  have q1 : IntKind.i64.wrap (placeV s a o + x) = pl := by rw [← hx]; exact IntWalk.i64_in _ (by omega)
  have q2 : IntKind.i64.wrap (keyV s a o + y) = k := by rw [← hy]; exact IntWalk.i64_in _ (by omega)
  have Q1 := Lib.hid q1
  have Q2 := Lib.hid q2
  clear hx hy q1 q2 b0 b1 b4 b5 e0 e1 e2 e3
  have HR := Lib.hid (show addB s a o x y = pwB pl k by rw [HA.out, hp, hq]; rfl)
  go_enter Try.func56, Try.ntmps56
  go_wp2_with fail
  have k0 : Blk (((w.alloc (Obj.cells #[.int .i64 s, .int .i64 a, .int .i64 o] 27)).alloc (Obj.cells #[.int .i64 x, .int .i64 y] 47)).alloc (Obj.cells #[.int .i64 0, .int .i64 0, .int .i64 0] 27)) (w.heap.size) 27 #[.int .i64 s, .int .i64 a, .int .i64 o] := (by repeat' (first | (with_reducible assumption) | (with_reducible exact Blk.new _ _ _) | (with_reducible exact Blk.new' (by simp)) | (with_reducible refine Blk.alloc ?_ _) | (with_reducible refine Blk.drew ?_) | (with_reducible refine Blk.drewN ?_ _) | (with_reducible refine Blk.ne ?_ ?_ _) | omega | (simp; omega)))
  have k1 : Blk (((w.alloc (Obj.cells #[.int .i64 s, .int .i64 a, .int .i64 o] 27)).alloc (Obj.cells #[.int .i64 x, .int .i64 y] 47)).alloc (Obj.cells #[.int .i64 0, .int .i64 0, .int .i64 0] 27)) (w.heap.size + 1) 47 #[.int .i64 x, .int .i64 y] := (by repeat' (first | (with_reducible assumption) | (with_reducible exact Blk.new _ _ _) | (with_reducible exact Blk.new' (by simp)) | (with_reducible refine Blk.alloc ?_ _) | (with_reducible refine Blk.drew ?_) | (with_reducible refine Blk.drewN ?_ _) | (with_reducible refine Blk.ne ?_ ?_ _) | omega | (simp; omega)))
  have k2 : Blk (((w.alloc (Obj.cells #[.int .i64 s, .int .i64 a, .int .i64 o] 27)).alloc (Obj.cells #[.int .i64 x, .int .i64 y] 47)).alloc (Obj.cells #[.int .i64 0, .int .i64 0, .int .i64 0] 27)) (w.heap.size + 2) 27 #[.int .i64 0, .int .i64 0, .int .i64 0] := (by repeat' (first | (with_reducible assumption) | (with_reducible exact Blk.new _ _ _) | (with_reducible exact Blk.new' (by simp)) | (with_reducible refine Blk.alloc ?_ _) | (with_reducible refine Blk.drew ?_) | (with_reducible refine Blk.drewN ?_ _) | (with_reducible refine Blk.ne ?_ ?_ _) | omega | (simp; omega)))
  have hB : Below w.heap.size w (((w.alloc (Obj.cells #[.int .i64 s, .int .i64 a, .int .i64 o] 27)).alloc (Obj.cells #[.int .i64 x, .int .i64 y] 47)).alloc (Obj.cells #[.int .i64 0, .int .i64 0, .int .i64 0] 27)) := by go_grown
  generalize (((w.alloc (Obj.cells #[.int .i64 s, .int .i64 a, .int .i64 o] 27)).alloc (Obj.cells #[.int .i64 x, .int .i64 y] 47)).alloc (Obj.cells #[.int .i64 0, .int .i64 0, .int .i64 0] 27)) = c0 at *
  have k0_c0 : c0.cell? ⟨w.heap.size, 0, none⟩ = some (.int .i64 s) := Blk.get k0 rfl
  have k0_f0 : c0.frozen? ⟨w.heap.size, 0, none⟩ = false := Blk.frozen k0 0
  have k0_c1 : c0.cell? ⟨w.heap.size, 1, none⟩ = some (.int .i64 a) := Blk.get k0 rfl
  have k0_f1 : c0.frozen? ⟨w.heap.size, 1, none⟩ = false := Blk.frozen k0 1
  have k0_c2 : c0.cell? ⟨w.heap.size, 2, none⟩ = some (.int .i64 o) := Blk.get k0 rfl
  have k0_f2 : c0.frozen? ⟨w.heap.size, 2, none⟩ = false := Blk.frozen k0 2
  have k0_z : w.heap.size < c0.heap.size := Blk.lt k0
  have k1_c0 : c0.cell? ⟨w.heap.size + 1, 0, none⟩ = some (.int .i64 x) := Blk.get k1 rfl
  have k1_f0 : c0.frozen? ⟨w.heap.size + 1, 0, none⟩ = false := Blk.frozen k1 0
  have k1_c1 : c0.cell? ⟨w.heap.size + 1, 1, none⟩ = some (.int .i64 y) := Blk.get k1 rfl
  have k1_f1 : c0.frozen? ⟨w.heap.size + 1, 1, none⟩ = false := Blk.frozen k1 1
  have k1_z : w.heap.size + 1 < c0.heap.size := Blk.lt k1
  have k2_c0 : c0.cell? ⟨w.heap.size + 2, 0, none⟩ = some (.int .i64 0) := Blk.get k2 rfl
  have k2_f0 : c0.frozen? ⟨w.heap.size + 2, 0, none⟩ = false := Blk.frozen k2 0
  have k2_c1 : c0.cell? ⟨w.heap.size + 2, 1, none⟩ = some (.int .i64 0) := Blk.get k2 rfl
  have k2_f1 : c0.frozen? ⟨w.heap.size + 2, 1, none⟩ = false := Blk.frozen k2 1
  have k2_c2 : c0.cell? ⟨w.heap.size + 2, 2, none⟩ = some (.int .i64 0) := Blk.get k2 rfl
  have k2_f2 : c0.frozen? ⟨w.heap.size + 2, 2, none⟩ = false := Blk.frozen k2 2
  have k2_z : w.heap.size + 2 < c0.heap.size := Blk.lt k2
  go_call (pitchValid_any _ _ _ _) as e c1 ⟨rfl, hb⟩
  replace k0 : Blk c1 (w.heap.size) 27 #[.int .i64 s, .int .i64 a, .int .i64 o] := Blk.pure (by repeat' (first | (with_reducible assumption) | (with_reducible exact Blk.new _ _ _) | (with_reducible exact Blk.new' (by simp)) | (with_reducible refine Blk.alloc ?_ _) | (with_reducible refine Blk.drew ?_) | (with_reducible refine Blk.drewN ?_ _) | (with_reducible refine Blk.ne ?_ ?_ _) | omega | (simp; omega))) hb
  replace k1 : Blk c1 (w.heap.size + 1) 47 #[.int .i64 x, .int .i64 y] := Blk.pure (by repeat' (first | (with_reducible assumption) | (with_reducible exact Blk.new _ _ _) | (with_reducible exact Blk.new' (by simp)) | (with_reducible refine Blk.alloc ?_ _) | (with_reducible refine Blk.drew ?_) | (with_reducible refine Blk.drewN ?_ _) | (with_reducible refine Blk.ne ?_ ?_ _) | omega | (simp; omega))) hb
  replace k2 : Blk c1 (w.heap.size + 2) 27 #[.int .i64 0, .int .i64 0, .int .i64 0] := Blk.pure (by repeat' (first | (with_reducible assumption) | (with_reducible exact Blk.new _ _ _) | (with_reducible exact Blk.new' (by simp)) | (with_reducible refine Blk.alloc ?_ _) | (with_reducible refine Blk.drew ?_) | (with_reducible refine Blk.drewN ?_ _) | (with_reducible refine Blk.ne ?_ ?_ _) | omega | (simp; omega))) hb
  replace hB := below_pure (w := w) (by go_grown) hb
  clear hb
  clear k0_c0 k0_f0 k0_c1 k0_f1 k0_c2 k0_f2 k0_z k1_c0 k1_f0 k1_c1 k1_f1 k1_z k2_c0 k2_f0 k2_c1 k2_f1 k2_c2 k2_f2 k2_z
  have k0_c0 : c1.cell? ⟨w.heap.size, 0, none⟩ = some (.int .i64 s) := Blk.get k0 rfl
  have k0_f0 : c1.frozen? ⟨w.heap.size, 0, none⟩ = false := Blk.frozen k0 0
  have k0_c1 : c1.cell? ⟨w.heap.size, 1, none⟩ = some (.int .i64 a) := Blk.get k0 rfl
  have k0_f1 : c1.frozen? ⟨w.heap.size, 1, none⟩ = false := Blk.frozen k0 1
  have k0_c2 : c1.cell? ⟨w.heap.size, 2, none⟩ = some (.int .i64 o) := Blk.get k0 rfl
  have k0_f2 : c1.frozen? ⟨w.heap.size, 2, none⟩ = false := Blk.frozen k0 2
  have k0_z : w.heap.size < c1.heap.size := Blk.lt k0
  have k1_c0 : c1.cell? ⟨w.heap.size + 1, 0, none⟩ = some (.int .i64 x) := Blk.get k1 rfl
  have k1_f0 : c1.frozen? ⟨w.heap.size + 1, 0, none⟩ = false := Blk.frozen k1 0
  have k1_c1 : c1.cell? ⟨w.heap.size + 1, 1, none⟩ = some (.int .i64 y) := Blk.get k1 rfl
  have k1_f1 : c1.frozen? ⟨w.heap.size + 1, 1, none⟩ = false := Blk.frozen k1 1
  have k1_z : w.heap.size + 1 < c1.heap.size := Blk.lt k1
  have k2_c0 : c1.cell? ⟨w.heap.size + 2, 0, none⟩ = some (.int .i64 0) := Blk.get k2 rfl
  have k2_f0 : c1.frozen? ⟨w.heap.size + 2, 0, none⟩ = false := Blk.frozen k2 0
  have k2_c1 : c1.cell? ⟨w.heap.size + 2, 1, none⟩ = some (.int .i64 0) := Blk.get k2 rfl
  have k2_f1 : c1.frozen? ⟨w.heap.size + 2, 1, none⟩ = false := Blk.frozen k2 1
  have k2_c2 : c1.cell? ⟨w.heap.size + 2, 2, none⟩ = some (.int .i64 0) := Blk.get k2 rfl
  have k2_f2 : c1.frozen? ⟨w.heap.size + 2, 2, none⟩ = false := Blk.frozen k2 2
  have k2_z : w.heap.size + 2 < c1.heap.size := Blk.lt k2
  go_wp2_with fail
  go_call (intervalValid_any _ _ _) as e c2 ⟨rfl, hb⟩
  replace k0 : Blk c2 (w.heap.size) 27 #[.int .i64 s, .int .i64 a, .int .i64 o] := Blk.pure (by repeat' (first | (with_reducible assumption) | (with_reducible exact Blk.new _ _ _) | (with_reducible exact Blk.new' (by simp)) | (with_reducible refine Blk.alloc ?_ _) | (with_reducible refine Blk.drew ?_) | (with_reducible refine Blk.drewN ?_ _) | (with_reducible refine Blk.ne ?_ ?_ _) | omega | (simp; omega))) hb
  replace k1 : Blk c2 (w.heap.size + 1) 47 #[.int .i64 x, .int .i64 y] := Blk.pure (by repeat' (first | (with_reducible assumption) | (with_reducible exact Blk.new _ _ _) | (with_reducible exact Blk.new' (by simp)) | (with_reducible refine Blk.alloc ?_ _) | (with_reducible refine Blk.drew ?_) | (with_reducible refine Blk.drewN ?_ _) | (with_reducible refine Blk.ne ?_ ?_ _) | omega | (simp; omega))) hb
  replace k2 : Blk c2 (w.heap.size + 2) 27 #[.int .i64 0, .int .i64 0, .int .i64 0] := Blk.pure (by repeat' (first | (with_reducible assumption) | (with_reducible exact Blk.new _ _ _) | (with_reducible exact Blk.new' (by simp)) | (with_reducible refine Blk.alloc ?_ _) | (with_reducible refine Blk.drew ?_) | (with_reducible refine Blk.drewN ?_ _) | (with_reducible refine Blk.ne ?_ ?_ _) | omega | (simp; omega))) hb
  replace hB := below_pure (w := w) (by go_grown) hb
  clear hb
  clear k0_c0 k0_f0 k0_c1 k0_f1 k0_c2 k0_f2 k0_z k1_c0 k1_f0 k1_c1 k1_f1 k1_z k2_c0 k2_f0 k2_c1 k2_f1 k2_c2 k2_f2 k2_z
  have k0_c0 : c2.cell? ⟨w.heap.size, 0, none⟩ = some (.int .i64 s) := Blk.get k0 rfl
  have k0_f0 : c2.frozen? ⟨w.heap.size, 0, none⟩ = false := Blk.frozen k0 0
  have k0_c1 : c2.cell? ⟨w.heap.size, 1, none⟩ = some (.int .i64 a) := Blk.get k0 rfl
  have k0_f1 : c2.frozen? ⟨w.heap.size, 1, none⟩ = false := Blk.frozen k0 1
  have k0_c2 : c2.cell? ⟨w.heap.size, 2, none⟩ = some (.int .i64 o) := Blk.get k0 rfl
  have k0_f2 : c2.frozen? ⟨w.heap.size, 2, none⟩ = false := Blk.frozen k0 2
  have k0_z : w.heap.size < c2.heap.size := Blk.lt k0
  have k1_c0 : c2.cell? ⟨w.heap.size + 1, 0, none⟩ = some (.int .i64 x) := Blk.get k1 rfl
  have k1_f0 : c2.frozen? ⟨w.heap.size + 1, 0, none⟩ = false := Blk.frozen k1 0
  have k1_c1 : c2.cell? ⟨w.heap.size + 1, 1, none⟩ = some (.int .i64 y) := Blk.get k1 rfl
  have k1_f1 : c2.frozen? ⟨w.heap.size + 1, 1, none⟩ = false := Blk.frozen k1 1
  have k1_z : w.heap.size + 1 < c2.heap.size := Blk.lt k1
  have k2_c0 : c2.cell? ⟨w.heap.size + 2, 0, none⟩ = some (.int .i64 0) := Blk.get k2 rfl
  have k2_f0 : c2.frozen? ⟨w.heap.size + 2, 0, none⟩ = false := Blk.frozen k2 0
  have k2_c1 : c2.cell? ⟨w.heap.size + 2, 1, none⟩ = some (.int .i64 0) := Blk.get k2 rfl
  have k2_f1 : c2.frozen? ⟨w.heap.size + 2, 1, none⟩ = false := Blk.frozen k2 1
  have k2_c2 : c2.cell? ⟨w.heap.size + 2, 2, none⟩ = some (.int .i64 0) := Blk.get k2 rfl
  have k2_f2 : c2.frozen? ⟨w.heap.size + 2, 2, none⟩ = false := Blk.frozen k2 2
  have k2_z : w.heap.size + 2 < c2.heap.size := Blk.lt k2
  have q1 := Q1.out
  have q2 := Q2.out
  go_upto_region 3 with fail
  go_cut [5] (fun v5 wc => Blk wc (w.heap.size) 27 #[.int .i64 s, .int .i64 a, .int .i64 o] ∧ Blk wc (w.heap.size + 1) 47 #[.int .i64 x, .int .i64 y] ∧ Blk wc (w.heap.size + 2) 27 #[.int .i64 (ofX (pwB pl k) (pl % 7)), .int .i64 (ofX (pwB pl k) (k - natu pl)), .int .i64 (ofX (pwB pl k) (pl / 7))] ∧ Below w.heap.size w wc ∧ v5 = .bool (pwB pl k))
  case first =>
    have hN := k2
    have hN0 := Blk.get (i := 0) hN rfl
    have hM0 := hN.frozen 0
    have hN1 := Blk.get (i := 1) hN rfl
    have hM1 := hN.frozen 1
    have hN2 := Blk.get (i := 2) hN rfl
    have hM2 := hN.frozen 2
    clear k2 k2_c0 k2_f0 k2_c1 k2_f1 k2_c2 k2_f2 k2_z
    have HSd := Lib.hid (show Blk c2.drew (w.heap.size) 27 #[.int .i64 s, .int .i64 a, .int .i64 o] ∧ c2.drew.cell? ⟨w.heap.size, 0, none⟩ = some (.int .i64 s) ∧ c2.drew.cell? ⟨w.heap.size, 1, none⟩ = some (.int .i64 a) ∧ c2.drew.cell? ⟨w.heap.size, 2, none⟩ = some (.int .i64 o) ∧ Blk c2.drew (w.heap.size + 1) 47 #[.int .i64 x, .int .i64 y] ∧ c2.drew.cell? ⟨w.heap.size + 1, 0, none⟩ = some (.int .i64 x) ∧ c2.drew.cell? ⟨w.heap.size + 1, 1, none⟩ = some (.int .i64 y) ∧ Below w.heap.size w c2.drew from ⟨k0, k0_c0, k0_c1, k0_c2, k1, k1_c0, k1_c1, hB.drew⟩)
    have hz : w.heap.size + 1 < c2.heap.size := k1_z
    clear hB k0_c0 k0_f0 k0_c1 k0_f1 k0_c2 k0_f2 k0_z k1_c0 k1_f0 k1_c1 k1_f1 k1_z k0 k1
    go_region_held3 (fun w' => Blk w' (w.heap.size) 27 #[.int .i64 s, .int .i64 a, .int .i64 o] ∧ w'.cell? ⟨w.heap.size, 0, none⟩ = some (.int .i64 s) ∧ w'.cell? ⟨w.heap.size, 1, none⟩ = some (.int .i64 a) ∧ w'.cell? ⟨w.heap.size, 2, none⟩ = some (.int .i64 o) ∧ Blk w' (w.heap.size + 1) 47 #[.int .i64 x, .int .i64 y] ∧ w'.cell? ⟨w.heap.size + 1, 0, none⟩ = some (.int .i64 x) ∧ w'.cell? ⟨w.heap.size + 1, 1, none⟩ = some (.int .i64 y) ∧ Below w.heap.size w w')
      (first | exact HSd.out | (go_split_ands; go_split_ands; (repeat' apply And.intro) <;> first | (with_reducible assumption) | (with_reducible exact Blk.pure (by assumption) hbc) | (with_reducible exact Blk.get (Blk.pure (by assumption) hbc) rfl) | (with_reducible exact below_pure (by assumption) hbc) | (with_reducible exact Blk.alloc (by assumption) _) | (with_reducible exact Blk.get (Blk.alloc (by assumption) _) rfl) | (with_reducible exact Below.alloc (by assumption) (Below.size (by assumption)) _) | (with_reducible exact Blk.drew (Blk.alloc (Blk.undrew (by assumption)) _)) | (with_reducible exact Blk.get (Blk.drew (Blk.alloc (Blk.undrew (by assumption)) _)) rfl) | (with_reducible exact Below.drew (Below.alloc (below_undrew (by assumption)) (Below.size (below_undrew (by assumption))) _)) | (with_reducible exact Blk.swap (by assumption) (by omega)) | (with_reducible exact Blk.get (Blk.swap (by assumption) (by omega)) rfl) | (with_reducible exact below_swap (by assumption) (by omega)) | (with_reducible exact (Blk.ne (Blk.ne (Blk.ne (by assumption) (by first | omega | (simp; omega)) _) (by first | omega | (simp; omega)) _) (by first | omega | (simp; omega)) _)) | (with_reducible exact Blk.get (Blk.ne (Blk.ne (Blk.ne (by assumption) (by first | omega | (simp; omega)) _) (by first | omega | (simp; omega)) _) (by first | omega | (simp; omega)) _) rfl) | (with_reducible exact (Below.setCell (Below.setCell (Below.setCell (by assumption) (by first | omega | (simp; omega)) _) (by first | omega | (simp; omega)) _) (by first | omega | (simp; omega)) _))))
      (first | ((go_at_call 69; refine (pitchPlace_any _ _ _ _).mono ?_; rintro e w2 ⟨rfl, hbc⟩); have hz : w.heap.size + 1 < w2.heap.size := (by (go_split_ands; refine Nat.lt_of_lt_of_le ?_ hbc.size; exact Blk.lt (by assumption))); (try have hN := Blk.pure hN hbc); (try have hN := Blk.pure (Blk.drew hN) hbc); (try have hN := Blk.new_pure hbc); (try have hN := Blk.new_pure_drew hbc); (try (have hN0 := Blk.get (i := 0) hN rfl; have hM0 := hN.frozen 0; have hN1 := Blk.get (i := 1) hN rfl; have hM1 := hN.frozen 1; have hN2 := Blk.get (i := 2) hN rfl; have hM2 := hN.frozen 2))) | ((go_at_call 59; refine (pitchKey_any _ _ _ _).mono ?_; rintro e w2 ⟨rfl, hbc⟩); have hz : w.heap.size + 1 < w2.heap.size := (by (go_split_ands; refine Nat.lt_of_lt_of_le ?_ hbc.size; exact Blk.lt (by assumption))); (try have hN := Blk.pure hN hbc); (try have hN := Blk.pure (Blk.drew hN) hbc); (try have hN := Blk.new_pure hbc); (try have hN := Blk.new_pure_drew hbc); (try (have hN0 := Blk.get (i := 0) hN rfl; have hM0 := hN.frozen 0; have hN1 := Blk.get (i := 1) hN rfl; have hM1 := hN.frozen 1; have hN2 := Blk.get (i := 2) hN rfl; have hM2 := hN.frozen 2))) | ((go_at_call 68; refine (pitchWith_any _ _ p0 p1 p2 p3 _).mono ?_; rintro e w2 ⟨rfl, hbc⟩); have hz : w.heap.size + 1 < w2.heap.size := (by (go_split_ands; refine Nat.lt_of_lt_of_le ?_ hbc.size; exact Blk.lt (by assumption))); (try have hN := Blk.pure hN hbc); (try have hN := Blk.pure (Blk.drew hN) hbc); (try have hN := Blk.new_pure hbc); (try have hN := Blk.new_pure_drew hbc); (try (have hN0 := Blk.get (i := 0) hN rfl; have hM0 := hN.frozen 0; have hN1 := Blk.get (i := 1) hN rfl; have hM1 := hN.frozen 1; have hN2 := Blk.get (i := 2) hN rfl; have hM2 := hN.frozen 2))))
    all_goals
      clear HSd
      go_wp2_with fail
      go_meet
      go_split_ands
      refine ⟨by assumption, by assumption, ?_, by assumption, rfl⟩
      · exact Blk.put3 hN
  case rest =>
    clear hB k0_c0 k0_f0 k0_c1 k0_f1 k0_c2 k0_f2 k0_z k1_c0 k1_f0 k1_c1 k1_f1 k1_z k2_c0 k2_f0 k2_c1 k2_f1 k2_c2 k2_f2 k2_z k0 k1 k2
    obtain ⟨k0, k1, k2, hB, rfl⟩ := hcut
    have k0_c0 : wc.cell? ⟨w.heap.size, 0, none⟩ = some (.int .i64 s) := Blk.get k0 rfl
    have k0_f0 : wc.frozen? ⟨w.heap.size, 0, none⟩ = false := Blk.frozen k0 0
    have k0_c1 : wc.cell? ⟨w.heap.size, 1, none⟩ = some (.int .i64 a) := Blk.get k0 rfl
    have k0_f1 : wc.frozen? ⟨w.heap.size, 1, none⟩ = false := Blk.frozen k0 1
    have k0_c2 : wc.cell? ⟨w.heap.size, 2, none⟩ = some (.int .i64 o) := Blk.get k0 rfl
    have k0_f2 : wc.frozen? ⟨w.heap.size, 2, none⟩ = false := Blk.frozen k0 2
    have k0_z : w.heap.size < wc.heap.size := Blk.lt k0
    have k1_c0 : wc.cell? ⟨w.heap.size + 1, 0, none⟩ = some (.int .i64 x) := Blk.get k1 rfl
    have k1_f0 : wc.frozen? ⟨w.heap.size + 1, 0, none⟩ = false := Blk.frozen k1 0
    have k1_c1 : wc.cell? ⟨w.heap.size + 1, 1, none⟩ = some (.int .i64 y) := Blk.get k1 rfl
    have k1_f1 : wc.frozen? ⟨w.heap.size + 1, 1, none⟩ = false := Blk.frozen k1 1
    have k1_z : w.heap.size + 1 < wc.heap.size := Blk.lt k1
    have k2_c0 : wc.cell? ⟨w.heap.size + 2, 0, none⟩ = some (.int .i64 (ofX (pwB pl k) (pl % 7))) := Blk.get k2 rfl
    have k2_f0 : wc.frozen? ⟨w.heap.size + 2, 0, none⟩ = false := Blk.frozen k2 0
    have k2_c1 : wc.cell? ⟨w.heap.size + 2, 1, none⟩ = some (.int .i64 (ofX (pwB pl k) (k - natu pl))) := Blk.get k2 rfl
    have k2_f1 : wc.frozen? ⟨w.heap.size + 2, 1, none⟩ = false := Blk.frozen k2 1
    have k2_c2 : wc.cell? ⟨w.heap.size + 2, 2, none⟩ = some (.int .i64 (ofX (pwB pl k) (pl / 7))) := Blk.get k2 rfl
    have k2_f2 : wc.frozen? ⟨w.heap.size + 2, 2, none⟩ = false := Blk.frozen k2 2
    have k2_z : w.heap.size + 2 < wc.heap.size := Blk.lt k2
    go_wp2
    refine bodyPost_ret (v := .tuple #[.agg #[.int .i64 (ofX (pwB pl k) (pl % 7)), .int .i64 (ofX (pwB pl k) (k - natu pl)), .int .i64 (ofX (pwB pl k) (pl / 7))], .bool (pwB pl k)]) (by simp [results, Try.results56, go_sem, *]) rfl ⟨by rw [HR.out], by go_grown⟩

set_option maxHeartbeats 4000000 in
theorem specAddInterval_any (s a o x y : Int) (w : World) (pl k : Int) (hx : placeV s a o + x = pl) (hy : keyV s a o + y = k) :
    Calls Try.prog 54 #[.agg #[.int .i64 s, .int .i64 a, .int .i64 o], .agg #[.int .i64 x, .int .i64 y]] w
      (Gives (.tuple #[.agg #[.int .i64 (ofX (addB s a o x y) (pl % 7)), .int .i64 (ofX (addB s a o x y) (k - natu pl)), .int .i64 (ofX (addB s a o x y) (pl / 7))], .bool (addB s a o x y)]) w) := by
  have HA := Lib.hid (show addB s a o x y = (pitchB s a o && intB x y && pwB pl k) by rw [← hx, ← hy]; rfl)
  obtain ⟨b0, b1⟩ := placeV_bd s a o
  obtain ⟨b4, b5⟩ := keyV_bd s a o
  cases hp : pitchB s a o
  · have HR := Lib.hid (show addB s a o x y = false by rw [HA.out, hp]; rfl)
    clear hx hy
    go_enter Try.func54, Try.ntmps54
    go_wp2_with fail
    have k0 : Blk (((w.alloc (Obj.cells #[.int .i64 s, .int .i64 a, .int .i64 o] 27)).alloc (Obj.cells #[.int .i64 x, .int .i64 y] 47)).alloc (Obj.cells #[.int .i64 0, .int .i64 0, .int .i64 0] 27)) (w.heap.size) 27 #[.int .i64 s, .int .i64 a, .int .i64 o] := (by repeat' (first | (with_reducible assumption) | (with_reducible exact Blk.new _ _ _) | (with_reducible exact Blk.new' (by simp)) | (with_reducible refine Blk.alloc ?_ _) | (with_reducible refine Blk.drew ?_) | (with_reducible refine Blk.drewN ?_ _) | (with_reducible refine Blk.ne ?_ ?_ _) | omega | (simp; omega)))
    have k1 : Blk (((w.alloc (Obj.cells #[.int .i64 s, .int .i64 a, .int .i64 o] 27)).alloc (Obj.cells #[.int .i64 x, .int .i64 y] 47)).alloc (Obj.cells #[.int .i64 0, .int .i64 0, .int .i64 0] 27)) (w.heap.size + 1) 47 #[.int .i64 x, .int .i64 y] := (by repeat' (first | (with_reducible assumption) | (with_reducible exact Blk.new _ _ _) | (with_reducible exact Blk.new' (by simp)) | (with_reducible refine Blk.alloc ?_ _) | (with_reducible refine Blk.drew ?_) | (with_reducible refine Blk.drewN ?_ _) | (with_reducible refine Blk.ne ?_ ?_ _) | omega | (simp; omega)))
    have k2 : Blk (((w.alloc (Obj.cells #[.int .i64 s, .int .i64 a, .int .i64 o] 27)).alloc (Obj.cells #[.int .i64 x, .int .i64 y] 47)).alloc (Obj.cells #[.int .i64 0, .int .i64 0, .int .i64 0] 27)) (w.heap.size + 2) 27 #[.int .i64 0, .int .i64 0, .int .i64 0] := (by repeat' (first | (with_reducible assumption) | (with_reducible exact Blk.new _ _ _) | (with_reducible exact Blk.new' (by simp)) | (with_reducible refine Blk.alloc ?_ _) | (with_reducible refine Blk.drew ?_) | (with_reducible refine Blk.drewN ?_ _) | (with_reducible refine Blk.ne ?_ ?_ _) | omega | (simp; omega)))
    have hB : Below w.heap.size w (((w.alloc (Obj.cells #[.int .i64 s, .int .i64 a, .int .i64 o] 27)).alloc (Obj.cells #[.int .i64 x, .int .i64 y] 47)).alloc (Obj.cells #[.int .i64 0, .int .i64 0, .int .i64 0] 27)) := by go_grown
    generalize (((w.alloc (Obj.cells #[.int .i64 s, .int .i64 a, .int .i64 o] 27)).alloc (Obj.cells #[.int .i64 x, .int .i64 y] 47)).alloc (Obj.cells #[.int .i64 0, .int .i64 0, .int .i64 0] 27)) = c0 at *
    have k0_c0 : c0.cell? ⟨w.heap.size, 0, none⟩ = some (.int .i64 s) := Blk.get k0 rfl
    have k0_f0 : c0.frozen? ⟨w.heap.size, 0, none⟩ = false := Blk.frozen k0 0
    have k0_c1 : c0.cell? ⟨w.heap.size, 1, none⟩ = some (.int .i64 a) := Blk.get k0 rfl
    have k0_f1 : c0.frozen? ⟨w.heap.size, 1, none⟩ = false := Blk.frozen k0 1
    have k0_c2 : c0.cell? ⟨w.heap.size, 2, none⟩ = some (.int .i64 o) := Blk.get k0 rfl
    have k0_f2 : c0.frozen? ⟨w.heap.size, 2, none⟩ = false := Blk.frozen k0 2
    have k0_z : w.heap.size < c0.heap.size := Blk.lt k0
    have k1_c0 : c0.cell? ⟨w.heap.size + 1, 0, none⟩ = some (.int .i64 x) := Blk.get k1 rfl
    have k1_f0 : c0.frozen? ⟨w.heap.size + 1, 0, none⟩ = false := Blk.frozen k1 0
    have k1_c1 : c0.cell? ⟨w.heap.size + 1, 1, none⟩ = some (.int .i64 y) := Blk.get k1 rfl
    have k1_f1 : c0.frozen? ⟨w.heap.size + 1, 1, none⟩ = false := Blk.frozen k1 1
    have k1_z : w.heap.size + 1 < c0.heap.size := Blk.lt k1
    have k2_c0 : c0.cell? ⟨w.heap.size + 2, 0, none⟩ = some (.int .i64 0) := Blk.get k2 rfl
    have k2_f0 : c0.frozen? ⟨w.heap.size + 2, 0, none⟩ = false := Blk.frozen k2 0
    have k2_c1 : c0.cell? ⟨w.heap.size + 2, 1, none⟩ = some (.int .i64 0) := Blk.get k2 rfl
    have k2_f1 : c0.frozen? ⟨w.heap.size + 2, 1, none⟩ = false := Blk.frozen k2 1
    have k2_c2 : c0.cell? ⟨w.heap.size + 2, 2, none⟩ = some (.int .i64 0) := Blk.get k2 rfl
    have k2_f2 : c0.frozen? ⟨w.heap.size + 2, 2, none⟩ = false := Blk.frozen k2 2
    have k2_z : w.heap.size + 2 < c0.heap.size := Blk.lt k2
    go_call (specPitchValid_any _ _ _ _) as e c1 ⟨rfl, hb⟩
    replace k0 : Blk c1 (w.heap.size) 27 #[.int .i64 s, .int .i64 a, .int .i64 o] := Blk.pure (by repeat' (first | (with_reducible assumption) | (with_reducible exact Blk.new _ _ _) | (with_reducible exact Blk.new' (by simp)) | (with_reducible refine Blk.alloc ?_ _) | (with_reducible refine Blk.drew ?_) | (with_reducible refine Blk.drewN ?_ _) | (with_reducible refine Blk.ne ?_ ?_ _) | omega | (simp; omega))) hb
    replace k1 : Blk c1 (w.heap.size + 1) 47 #[.int .i64 x, .int .i64 y] := Blk.pure (by repeat' (first | (with_reducible assumption) | (with_reducible exact Blk.new _ _ _) | (with_reducible exact Blk.new' (by simp)) | (with_reducible refine Blk.alloc ?_ _) | (with_reducible refine Blk.drew ?_) | (with_reducible refine Blk.drewN ?_ _) | (with_reducible refine Blk.ne ?_ ?_ _) | omega | (simp; omega))) hb
    replace k2 : Blk c1 (w.heap.size + 2) 27 #[.int .i64 0, .int .i64 0, .int .i64 0] := Blk.pure (by repeat' (first | (with_reducible assumption) | (with_reducible exact Blk.new _ _ _) | (with_reducible exact Blk.new' (by simp)) | (with_reducible refine Blk.alloc ?_ _) | (with_reducible refine Blk.drew ?_) | (with_reducible refine Blk.drewN ?_ _) | (with_reducible refine Blk.ne ?_ ?_ _) | omega | (simp; omega))) hb
    replace hB := below_pure (w := w) (by go_grown) hb
    clear hb
    clear k0_c0 k0_f0 k0_c1 k0_f1 k0_c2 k0_f2 k0_z k1_c0 k1_f0 k1_c1 k1_f1 k1_z k2_c0 k2_f0 k2_c1 k2_f1 k2_c2 k2_f2 k2_z
    have k0_c0 : c1.cell? ⟨w.heap.size, 0, none⟩ = some (.int .i64 s) := Blk.get k0 rfl
    have k0_f0 : c1.frozen? ⟨w.heap.size, 0, none⟩ = false := Blk.frozen k0 0
    have k0_c1 : c1.cell? ⟨w.heap.size, 1, none⟩ = some (.int .i64 a) := Blk.get k0 rfl
    have k0_f1 : c1.frozen? ⟨w.heap.size, 1, none⟩ = false := Blk.frozen k0 1
    have k0_c2 : c1.cell? ⟨w.heap.size, 2, none⟩ = some (.int .i64 o) := Blk.get k0 rfl
    have k0_f2 : c1.frozen? ⟨w.heap.size, 2, none⟩ = false := Blk.frozen k0 2
    have k0_z : w.heap.size < c1.heap.size := Blk.lt k0
    have k1_c0 : c1.cell? ⟨w.heap.size + 1, 0, none⟩ = some (.int .i64 x) := Blk.get k1 rfl
    have k1_f0 : c1.frozen? ⟨w.heap.size + 1, 0, none⟩ = false := Blk.frozen k1 0
    have k1_c1 : c1.cell? ⟨w.heap.size + 1, 1, none⟩ = some (.int .i64 y) := Blk.get k1 rfl
    have k1_f1 : c1.frozen? ⟨w.heap.size + 1, 1, none⟩ = false := Blk.frozen k1 1
    have k1_z : w.heap.size + 1 < c1.heap.size := Blk.lt k1
    have k2_c0 : c1.cell? ⟨w.heap.size + 2, 0, none⟩ = some (.int .i64 0) := Blk.get k2 rfl
    have k2_f0 : c1.frozen? ⟨w.heap.size + 2, 0, none⟩ = false := Blk.frozen k2 0
    have k2_c1 : c1.cell? ⟨w.heap.size + 2, 1, none⟩ = some (.int .i64 0) := Blk.get k2 rfl
    have k2_f1 : c1.frozen? ⟨w.heap.size + 2, 1, none⟩ = false := Blk.frozen k2 1
    have k2_c2 : c1.cell? ⟨w.heap.size + 2, 2, none⟩ = some (.int .i64 0) := Blk.get k2 rfl
    have k2_f2 : c1.frozen? ⟨w.heap.size + 2, 2, none⟩ = false := Blk.frozen k2 2
    have k2_z : w.heap.size + 2 < c1.heap.size := Blk.lt k2
    go_wp2
    refine bodyPost_ret (v := .tuple #[.agg #[.int .i64 0, .int .i64 0, .int .i64 0], .bool false]) (by simp [results, Try.results54, go_sem, *]) rfl ⟨by rw [HR.out]; rfl, by go_grown⟩
  cases hq : intB x y
  · have HR := Lib.hid (show addB s a o x y = false by rw [HA.out, hp, hq]; rfl)
    clear hx hy
    go_enter Try.func54, Try.ntmps54
    go_wp2_with fail
    have k0 : Blk (((w.alloc (Obj.cells #[.int .i64 s, .int .i64 a, .int .i64 o] 27)).alloc (Obj.cells #[.int .i64 x, .int .i64 y] 47)).alloc (Obj.cells #[.int .i64 0, .int .i64 0, .int .i64 0] 27)) (w.heap.size) 27 #[.int .i64 s, .int .i64 a, .int .i64 o] := (by repeat' (first | (with_reducible assumption) | (with_reducible exact Blk.new _ _ _) | (with_reducible exact Blk.new' (by simp)) | (with_reducible refine Blk.alloc ?_ _) | (with_reducible refine Blk.drew ?_) | (with_reducible refine Blk.drewN ?_ _) | (with_reducible refine Blk.ne ?_ ?_ _) | omega | (simp; omega)))
    have k1 : Blk (((w.alloc (Obj.cells #[.int .i64 s, .int .i64 a, .int .i64 o] 27)).alloc (Obj.cells #[.int .i64 x, .int .i64 y] 47)).alloc (Obj.cells #[.int .i64 0, .int .i64 0, .int .i64 0] 27)) (w.heap.size + 1) 47 #[.int .i64 x, .int .i64 y] := (by repeat' (first | (with_reducible assumption) | (with_reducible exact Blk.new _ _ _) | (with_reducible exact Blk.new' (by simp)) | (with_reducible refine Blk.alloc ?_ _) | (with_reducible refine Blk.drew ?_) | (with_reducible refine Blk.drewN ?_ _) | (with_reducible refine Blk.ne ?_ ?_ _) | omega | (simp; omega)))
    have k2 : Blk (((w.alloc (Obj.cells #[.int .i64 s, .int .i64 a, .int .i64 o] 27)).alloc (Obj.cells #[.int .i64 x, .int .i64 y] 47)).alloc (Obj.cells #[.int .i64 0, .int .i64 0, .int .i64 0] 27)) (w.heap.size + 2) 27 #[.int .i64 0, .int .i64 0, .int .i64 0] := (by repeat' (first | (with_reducible assumption) | (with_reducible exact Blk.new _ _ _) | (with_reducible exact Blk.new' (by simp)) | (with_reducible refine Blk.alloc ?_ _) | (with_reducible refine Blk.drew ?_) | (with_reducible refine Blk.drewN ?_ _) | (with_reducible refine Blk.ne ?_ ?_ _) | omega | (simp; omega)))
    have hB : Below w.heap.size w (((w.alloc (Obj.cells #[.int .i64 s, .int .i64 a, .int .i64 o] 27)).alloc (Obj.cells #[.int .i64 x, .int .i64 y] 47)).alloc (Obj.cells #[.int .i64 0, .int .i64 0, .int .i64 0] 27)) := by go_grown
    generalize (((w.alloc (Obj.cells #[.int .i64 s, .int .i64 a, .int .i64 o] 27)).alloc (Obj.cells #[.int .i64 x, .int .i64 y] 47)).alloc (Obj.cells #[.int .i64 0, .int .i64 0, .int .i64 0] 27)) = c0 at *
    have k0_c0 : c0.cell? ⟨w.heap.size, 0, none⟩ = some (.int .i64 s) := Blk.get k0 rfl
    have k0_f0 : c0.frozen? ⟨w.heap.size, 0, none⟩ = false := Blk.frozen k0 0
    have k0_c1 : c0.cell? ⟨w.heap.size, 1, none⟩ = some (.int .i64 a) := Blk.get k0 rfl
    have k0_f1 : c0.frozen? ⟨w.heap.size, 1, none⟩ = false := Blk.frozen k0 1
    have k0_c2 : c0.cell? ⟨w.heap.size, 2, none⟩ = some (.int .i64 o) := Blk.get k0 rfl
    have k0_f2 : c0.frozen? ⟨w.heap.size, 2, none⟩ = false := Blk.frozen k0 2
    have k0_z : w.heap.size < c0.heap.size := Blk.lt k0
    have k1_c0 : c0.cell? ⟨w.heap.size + 1, 0, none⟩ = some (.int .i64 x) := Blk.get k1 rfl
    have k1_f0 : c0.frozen? ⟨w.heap.size + 1, 0, none⟩ = false := Blk.frozen k1 0
    have k1_c1 : c0.cell? ⟨w.heap.size + 1, 1, none⟩ = some (.int .i64 y) := Blk.get k1 rfl
    have k1_f1 : c0.frozen? ⟨w.heap.size + 1, 1, none⟩ = false := Blk.frozen k1 1
    have k1_z : w.heap.size + 1 < c0.heap.size := Blk.lt k1
    have k2_c0 : c0.cell? ⟨w.heap.size + 2, 0, none⟩ = some (.int .i64 0) := Blk.get k2 rfl
    have k2_f0 : c0.frozen? ⟨w.heap.size + 2, 0, none⟩ = false := Blk.frozen k2 0
    have k2_c1 : c0.cell? ⟨w.heap.size + 2, 1, none⟩ = some (.int .i64 0) := Blk.get k2 rfl
    have k2_f1 : c0.frozen? ⟨w.heap.size + 2, 1, none⟩ = false := Blk.frozen k2 1
    have k2_c2 : c0.cell? ⟨w.heap.size + 2, 2, none⟩ = some (.int .i64 0) := Blk.get k2 rfl
    have k2_f2 : c0.frozen? ⟨w.heap.size + 2, 2, none⟩ = false := Blk.frozen k2 2
    have k2_z : w.heap.size + 2 < c0.heap.size := Blk.lt k2
    go_call (specPitchValid_any _ _ _ _) as e c1 ⟨rfl, hb⟩
    replace k0 : Blk c1 (w.heap.size) 27 #[.int .i64 s, .int .i64 a, .int .i64 o] := Blk.pure (by repeat' (first | (with_reducible assumption) | (with_reducible exact Blk.new _ _ _) | (with_reducible exact Blk.new' (by simp)) | (with_reducible refine Blk.alloc ?_ _) | (with_reducible refine Blk.drew ?_) | (with_reducible refine Blk.drewN ?_ _) | (with_reducible refine Blk.ne ?_ ?_ _) | omega | (simp; omega))) hb
    replace k1 : Blk c1 (w.heap.size + 1) 47 #[.int .i64 x, .int .i64 y] := Blk.pure (by repeat' (first | (with_reducible assumption) | (with_reducible exact Blk.new _ _ _) | (with_reducible exact Blk.new' (by simp)) | (with_reducible refine Blk.alloc ?_ _) | (with_reducible refine Blk.drew ?_) | (with_reducible refine Blk.drewN ?_ _) | (with_reducible refine Blk.ne ?_ ?_ _) | omega | (simp; omega))) hb
    replace k2 : Blk c1 (w.heap.size + 2) 27 #[.int .i64 0, .int .i64 0, .int .i64 0] := Blk.pure (by repeat' (first | (with_reducible assumption) | (with_reducible exact Blk.new _ _ _) | (with_reducible exact Blk.new' (by simp)) | (with_reducible refine Blk.alloc ?_ _) | (with_reducible refine Blk.drew ?_) | (with_reducible refine Blk.drewN ?_ _) | (with_reducible refine Blk.ne ?_ ?_ _) | omega | (simp; omega))) hb
    replace hB := below_pure (w := w) (by go_grown) hb
    clear hb
    clear k0_c0 k0_f0 k0_c1 k0_f1 k0_c2 k0_f2 k0_z k1_c0 k1_f0 k1_c1 k1_f1 k1_z k2_c0 k2_f0 k2_c1 k2_f1 k2_c2 k2_f2 k2_z
    have k0_c0 : c1.cell? ⟨w.heap.size, 0, none⟩ = some (.int .i64 s) := Blk.get k0 rfl
    have k0_f0 : c1.frozen? ⟨w.heap.size, 0, none⟩ = false := Blk.frozen k0 0
    have k0_c1 : c1.cell? ⟨w.heap.size, 1, none⟩ = some (.int .i64 a) := Blk.get k0 rfl
    have k0_f1 : c1.frozen? ⟨w.heap.size, 1, none⟩ = false := Blk.frozen k0 1
    have k0_c2 : c1.cell? ⟨w.heap.size, 2, none⟩ = some (.int .i64 o) := Blk.get k0 rfl
    have k0_f2 : c1.frozen? ⟨w.heap.size, 2, none⟩ = false := Blk.frozen k0 2
    have k0_z : w.heap.size < c1.heap.size := Blk.lt k0
    have k1_c0 : c1.cell? ⟨w.heap.size + 1, 0, none⟩ = some (.int .i64 x) := Blk.get k1 rfl
    have k1_f0 : c1.frozen? ⟨w.heap.size + 1, 0, none⟩ = false := Blk.frozen k1 0
    have k1_c1 : c1.cell? ⟨w.heap.size + 1, 1, none⟩ = some (.int .i64 y) := Blk.get k1 rfl
    have k1_f1 : c1.frozen? ⟨w.heap.size + 1, 1, none⟩ = false := Blk.frozen k1 1
    have k1_z : w.heap.size + 1 < c1.heap.size := Blk.lt k1
    have k2_c0 : c1.cell? ⟨w.heap.size + 2, 0, none⟩ = some (.int .i64 0) := Blk.get k2 rfl
    have k2_f0 : c1.frozen? ⟨w.heap.size + 2, 0, none⟩ = false := Blk.frozen k2 0
    have k2_c1 : c1.cell? ⟨w.heap.size + 2, 1, none⟩ = some (.int .i64 0) := Blk.get k2 rfl
    have k2_f1 : c1.frozen? ⟨w.heap.size + 2, 1, none⟩ = false := Blk.frozen k2 1
    have k2_c2 : c1.cell? ⟨w.heap.size + 2, 2, none⟩ = some (.int .i64 0) := Blk.get k2 rfl
    have k2_f2 : c1.frozen? ⟨w.heap.size + 2, 2, none⟩ = false := Blk.frozen k2 2
    have k2_z : w.heap.size + 2 < c1.heap.size := Blk.lt k2
    go_wp2_with fail
    go_call (specIntervalValid_any _ _ _) as e c2 ⟨rfl, hb⟩
    replace k0 : Blk c2 (w.heap.size) 27 #[.int .i64 s, .int .i64 a, .int .i64 o] := Blk.pure (by repeat' (first | (with_reducible assumption) | (with_reducible exact Blk.new _ _ _) | (with_reducible exact Blk.new' (by simp)) | (with_reducible refine Blk.alloc ?_ _) | (with_reducible refine Blk.drew ?_) | (with_reducible refine Blk.drewN ?_ _) | (with_reducible refine Blk.ne ?_ ?_ _) | omega | (simp; omega))) hb
    replace k1 : Blk c2 (w.heap.size + 1) 47 #[.int .i64 x, .int .i64 y] := Blk.pure (by repeat' (first | (with_reducible assumption) | (with_reducible exact Blk.new _ _ _) | (with_reducible exact Blk.new' (by simp)) | (with_reducible refine Blk.alloc ?_ _) | (with_reducible refine Blk.drew ?_) | (with_reducible refine Blk.drewN ?_ _) | (with_reducible refine Blk.ne ?_ ?_ _) | omega | (simp; omega))) hb
    replace k2 : Blk c2 (w.heap.size + 2) 27 #[.int .i64 0, .int .i64 0, .int .i64 0] := Blk.pure (by repeat' (first | (with_reducible assumption) | (with_reducible exact Blk.new _ _ _) | (with_reducible exact Blk.new' (by simp)) | (with_reducible refine Blk.alloc ?_ _) | (with_reducible refine Blk.drew ?_) | (with_reducible refine Blk.drewN ?_ _) | (with_reducible refine Blk.ne ?_ ?_ _) | omega | (simp; omega))) hb
    replace hB := below_pure (w := w) (by go_grown) hb
    clear hb
    clear k0_c0 k0_f0 k0_c1 k0_f1 k0_c2 k0_f2 k0_z k1_c0 k1_f0 k1_c1 k1_f1 k1_z k2_c0 k2_f0 k2_c1 k2_f1 k2_c2 k2_f2 k2_z
    have k0_c0 : c2.cell? ⟨w.heap.size, 0, none⟩ = some (.int .i64 s) := Blk.get k0 rfl
    have k0_f0 : c2.frozen? ⟨w.heap.size, 0, none⟩ = false := Blk.frozen k0 0
    have k0_c1 : c2.cell? ⟨w.heap.size, 1, none⟩ = some (.int .i64 a) := Blk.get k0 rfl
    have k0_f1 : c2.frozen? ⟨w.heap.size, 1, none⟩ = false := Blk.frozen k0 1
    have k0_c2 : c2.cell? ⟨w.heap.size, 2, none⟩ = some (.int .i64 o) := Blk.get k0 rfl
    have k0_f2 : c2.frozen? ⟨w.heap.size, 2, none⟩ = false := Blk.frozen k0 2
    have k0_z : w.heap.size < c2.heap.size := Blk.lt k0
    have k1_c0 : c2.cell? ⟨w.heap.size + 1, 0, none⟩ = some (.int .i64 x) := Blk.get k1 rfl
    have k1_f0 : c2.frozen? ⟨w.heap.size + 1, 0, none⟩ = false := Blk.frozen k1 0
    have k1_c1 : c2.cell? ⟨w.heap.size + 1, 1, none⟩ = some (.int .i64 y) := Blk.get k1 rfl
    have k1_f1 : c2.frozen? ⟨w.heap.size + 1, 1, none⟩ = false := Blk.frozen k1 1
    have k1_z : w.heap.size + 1 < c2.heap.size := Blk.lt k1
    have k2_c0 : c2.cell? ⟨w.heap.size + 2, 0, none⟩ = some (.int .i64 0) := Blk.get k2 rfl
    have k2_f0 : c2.frozen? ⟨w.heap.size + 2, 0, none⟩ = false := Blk.frozen k2 0
    have k2_c1 : c2.cell? ⟨w.heap.size + 2, 1, none⟩ = some (.int .i64 0) := Blk.get k2 rfl
    have k2_f1 : c2.frozen? ⟨w.heap.size + 2, 1, none⟩ = false := Blk.frozen k2 1
    have k2_c2 : c2.cell? ⟨w.heap.size + 2, 2, none⟩ = some (.int .i64 0) := Blk.get k2 rfl
    have k2_f2 : c2.frozen? ⟨w.heap.size + 2, 2, none⟩ = false := Blk.frozen k2 2
    have k2_z : w.heap.size + 2 < c2.heap.size := Blk.lt k2
    go_wp2
    refine bodyPost_ret (v := .tuple #[.agg #[.int .i64 0, .int .i64 0, .int .i64 0], .bool false]) (by simp [results, Try.results54, go_sem, *]) rfl ⟨by rw [HR.out]; rfl, by go_grown⟩
  obtain ⟨e0, e1, e2, e3, -, -⟩ := intB_t hq
  have p0 : -100 ≤ pl := by omega
  have p1 : pl ≤ 100 := by omega
  have p2 : -1000 ≤ k := by omega
  have p3 : k ≤ 1000 := by omega
  have q1 : IntKind.i64.wrap (placeV s a o + x) = pl := by rw [← hx]; exact IntWalk.i64_in _ (by omega)
  have q2 : IntKind.i64.wrap (keyV s a o + y) = k := by rw [← hy]; exact IntWalk.i64_in _ (by omega)
  have Q1 := Lib.hid q1
  have Q2 := Lib.hid q2
  clear hx hy q1 q2 b0 b1 b4 b5 e0 e1 e2 e3
  go_enter Try.func54, Try.ntmps54
  go_wp2_with fail
  have k0 : Blk (((w.alloc (Obj.cells #[.int .i64 s, .int .i64 a, .int .i64 o] 27)).alloc (Obj.cells #[.int .i64 x, .int .i64 y] 47)).alloc (Obj.cells #[.int .i64 0, .int .i64 0, .int .i64 0] 27)) (w.heap.size) 27 #[.int .i64 s, .int .i64 a, .int .i64 o] := (by repeat' (first | (with_reducible assumption) | (with_reducible exact Blk.new _ _ _) | (with_reducible exact Blk.new' (by simp)) | (with_reducible refine Blk.alloc ?_ _) | (with_reducible refine Blk.drew ?_) | (with_reducible refine Blk.drewN ?_ _) | (with_reducible refine Blk.ne ?_ ?_ _) | omega | (simp; omega)))
  have k1 : Blk (((w.alloc (Obj.cells #[.int .i64 s, .int .i64 a, .int .i64 o] 27)).alloc (Obj.cells #[.int .i64 x, .int .i64 y] 47)).alloc (Obj.cells #[.int .i64 0, .int .i64 0, .int .i64 0] 27)) (w.heap.size + 1) 47 #[.int .i64 x, .int .i64 y] := (by repeat' (first | (with_reducible assumption) | (with_reducible exact Blk.new _ _ _) | (with_reducible exact Blk.new' (by simp)) | (with_reducible refine Blk.alloc ?_ _) | (with_reducible refine Blk.drew ?_) | (with_reducible refine Blk.drewN ?_ _) | (with_reducible refine Blk.ne ?_ ?_ _) | omega | (simp; omega)))
  have k2 : Blk (((w.alloc (Obj.cells #[.int .i64 s, .int .i64 a, .int .i64 o] 27)).alloc (Obj.cells #[.int .i64 x, .int .i64 y] 47)).alloc (Obj.cells #[.int .i64 0, .int .i64 0, .int .i64 0] 27)) (w.heap.size + 2) 27 #[.int .i64 0, .int .i64 0, .int .i64 0] := (by repeat' (first | (with_reducible assumption) | (with_reducible exact Blk.new _ _ _) | (with_reducible exact Blk.new' (by simp)) | (with_reducible refine Blk.alloc ?_ _) | (with_reducible refine Blk.drew ?_) | (with_reducible refine Blk.drewN ?_ _) | (with_reducible refine Blk.ne ?_ ?_ _) | omega | (simp; omega)))
  have hB : Below w.heap.size w (((w.alloc (Obj.cells #[.int .i64 s, .int .i64 a, .int .i64 o] 27)).alloc (Obj.cells #[.int .i64 x, .int .i64 y] 47)).alloc (Obj.cells #[.int .i64 0, .int .i64 0, .int .i64 0] 27)) := by go_grown
  generalize (((w.alloc (Obj.cells #[.int .i64 s, .int .i64 a, .int .i64 o] 27)).alloc (Obj.cells #[.int .i64 x, .int .i64 y] 47)).alloc (Obj.cells #[.int .i64 0, .int .i64 0, .int .i64 0] 27)) = c0 at *
  have k0_c0 : c0.cell? ⟨w.heap.size, 0, none⟩ = some (.int .i64 s) := Blk.get k0 rfl
  have k0_f0 : c0.frozen? ⟨w.heap.size, 0, none⟩ = false := Blk.frozen k0 0
  have k0_c1 : c0.cell? ⟨w.heap.size, 1, none⟩ = some (.int .i64 a) := Blk.get k0 rfl
  have k0_f1 : c0.frozen? ⟨w.heap.size, 1, none⟩ = false := Blk.frozen k0 1
  have k0_c2 : c0.cell? ⟨w.heap.size, 2, none⟩ = some (.int .i64 o) := Blk.get k0 rfl
  have k0_f2 : c0.frozen? ⟨w.heap.size, 2, none⟩ = false := Blk.frozen k0 2
  have k0_z : w.heap.size < c0.heap.size := Blk.lt k0
  have k1_c0 : c0.cell? ⟨w.heap.size + 1, 0, none⟩ = some (.int .i64 x) := Blk.get k1 rfl
  have k1_f0 : c0.frozen? ⟨w.heap.size + 1, 0, none⟩ = false := Blk.frozen k1 0
  have k1_c1 : c0.cell? ⟨w.heap.size + 1, 1, none⟩ = some (.int .i64 y) := Blk.get k1 rfl
  have k1_f1 : c0.frozen? ⟨w.heap.size + 1, 1, none⟩ = false := Blk.frozen k1 1
  have k1_z : w.heap.size + 1 < c0.heap.size := Blk.lt k1
  have k2_c0 : c0.cell? ⟨w.heap.size + 2, 0, none⟩ = some (.int .i64 0) := Blk.get k2 rfl
  have k2_f0 : c0.frozen? ⟨w.heap.size + 2, 0, none⟩ = false := Blk.frozen k2 0
  have k2_c1 : c0.cell? ⟨w.heap.size + 2, 1, none⟩ = some (.int .i64 0) := Blk.get k2 rfl
  have k2_f1 : c0.frozen? ⟨w.heap.size + 2, 1, none⟩ = false := Blk.frozen k2 1
  have k2_c2 : c0.cell? ⟨w.heap.size + 2, 2, none⟩ = some (.int .i64 0) := Blk.get k2 rfl
  have k2_f2 : c0.frozen? ⟨w.heap.size + 2, 2, none⟩ = false := Blk.frozen k2 2
  have k2_z : w.heap.size + 2 < c0.heap.size := Blk.lt k2
  go_call (specPitchValid_any _ _ _ _) as e c1 ⟨rfl, hb⟩
  replace k0 : Blk c1 (w.heap.size) 27 #[.int .i64 s, .int .i64 a, .int .i64 o] := Blk.pure (by repeat' (first | (with_reducible assumption) | (with_reducible exact Blk.new _ _ _) | (with_reducible exact Blk.new' (by simp)) | (with_reducible refine Blk.alloc ?_ _) | (with_reducible refine Blk.drew ?_) | (with_reducible refine Blk.drewN ?_ _) | (with_reducible refine Blk.ne ?_ ?_ _) | omega | (simp; omega))) hb
  replace k1 : Blk c1 (w.heap.size + 1) 47 #[.int .i64 x, .int .i64 y] := Blk.pure (by repeat' (first | (with_reducible assumption) | (with_reducible exact Blk.new _ _ _) | (with_reducible exact Blk.new' (by simp)) | (with_reducible refine Blk.alloc ?_ _) | (with_reducible refine Blk.drew ?_) | (with_reducible refine Blk.drewN ?_ _) | (with_reducible refine Blk.ne ?_ ?_ _) | omega | (simp; omega))) hb
  replace k2 : Blk c1 (w.heap.size + 2) 27 #[.int .i64 0, .int .i64 0, .int .i64 0] := Blk.pure (by repeat' (first | (with_reducible assumption) | (with_reducible exact Blk.new _ _ _) | (with_reducible exact Blk.new' (by simp)) | (with_reducible refine Blk.alloc ?_ _) | (with_reducible refine Blk.drew ?_) | (with_reducible refine Blk.drewN ?_ _) | (with_reducible refine Blk.ne ?_ ?_ _) | omega | (simp; omega))) hb
  replace hB := below_pure (w := w) (by go_grown) hb
  clear hb
  clear k0_c0 k0_f0 k0_c1 k0_f1 k0_c2 k0_f2 k0_z k1_c0 k1_f0 k1_c1 k1_f1 k1_z k2_c0 k2_f0 k2_c1 k2_f1 k2_c2 k2_f2 k2_z
  have k0_c0 : c1.cell? ⟨w.heap.size, 0, none⟩ = some (.int .i64 s) := Blk.get k0 rfl
  have k0_f0 : c1.frozen? ⟨w.heap.size, 0, none⟩ = false := Blk.frozen k0 0
  have k0_c1 : c1.cell? ⟨w.heap.size, 1, none⟩ = some (.int .i64 a) := Blk.get k0 rfl
  have k0_f1 : c1.frozen? ⟨w.heap.size, 1, none⟩ = false := Blk.frozen k0 1
  have k0_c2 : c1.cell? ⟨w.heap.size, 2, none⟩ = some (.int .i64 o) := Blk.get k0 rfl
  have k0_f2 : c1.frozen? ⟨w.heap.size, 2, none⟩ = false := Blk.frozen k0 2
  have k0_z : w.heap.size < c1.heap.size := Blk.lt k0
  have k1_c0 : c1.cell? ⟨w.heap.size + 1, 0, none⟩ = some (.int .i64 x) := Blk.get k1 rfl
  have k1_f0 : c1.frozen? ⟨w.heap.size + 1, 0, none⟩ = false := Blk.frozen k1 0
  have k1_c1 : c1.cell? ⟨w.heap.size + 1, 1, none⟩ = some (.int .i64 y) := Blk.get k1 rfl
  have k1_f1 : c1.frozen? ⟨w.heap.size + 1, 1, none⟩ = false := Blk.frozen k1 1
  have k1_z : w.heap.size + 1 < c1.heap.size := Blk.lt k1
  have k2_c0 : c1.cell? ⟨w.heap.size + 2, 0, none⟩ = some (.int .i64 0) := Blk.get k2 rfl
  have k2_f0 : c1.frozen? ⟨w.heap.size + 2, 0, none⟩ = false := Blk.frozen k2 0
  have k2_c1 : c1.cell? ⟨w.heap.size + 2, 1, none⟩ = some (.int .i64 0) := Blk.get k2 rfl
  have k2_f1 : c1.frozen? ⟨w.heap.size + 2, 1, none⟩ = false := Blk.frozen k2 1
  have k2_c2 : c1.cell? ⟨w.heap.size + 2, 2, none⟩ = some (.int .i64 0) := Blk.get k2 rfl
  have k2_f2 : c1.frozen? ⟨w.heap.size + 2, 2, none⟩ = false := Blk.frozen k2 2
  have k2_z : w.heap.size + 2 < c1.heap.size := Blk.lt k2
  go_wp2_with fail
  go_call (specIntervalValid_any _ _ _) as e c2 ⟨rfl, hb⟩
  replace k0 : Blk c2 (w.heap.size) 27 #[.int .i64 s, .int .i64 a, .int .i64 o] := Blk.pure (by repeat' (first | (with_reducible assumption) | (with_reducible exact Blk.new _ _ _) | (with_reducible exact Blk.new' (by simp)) | (with_reducible refine Blk.alloc ?_ _) | (with_reducible refine Blk.drew ?_) | (with_reducible refine Blk.drewN ?_ _) | (with_reducible refine Blk.ne ?_ ?_ _) | omega | (simp; omega))) hb
  replace k1 : Blk c2 (w.heap.size + 1) 47 #[.int .i64 x, .int .i64 y] := Blk.pure (by repeat' (first | (with_reducible assumption) | (with_reducible exact Blk.new _ _ _) | (with_reducible exact Blk.new' (by simp)) | (with_reducible refine Blk.alloc ?_ _) | (with_reducible refine Blk.drew ?_) | (with_reducible refine Blk.drewN ?_ _) | (with_reducible refine Blk.ne ?_ ?_ _) | omega | (simp; omega))) hb
  replace k2 : Blk c2 (w.heap.size + 2) 27 #[.int .i64 0, .int .i64 0, .int .i64 0] := Blk.pure (by repeat' (first | (with_reducible assumption) | (with_reducible exact Blk.new _ _ _) | (with_reducible exact Blk.new' (by simp)) | (with_reducible refine Blk.alloc ?_ _) | (with_reducible refine Blk.drew ?_) | (with_reducible refine Blk.drewN ?_ _) | (with_reducible refine Blk.ne ?_ ?_ _) | omega | (simp; omega))) hb
  replace hB := below_pure (w := w) (by go_grown) hb
  clear hb
  clear k0_c0 k0_f0 k0_c1 k0_f1 k0_c2 k0_f2 k0_z k1_c0 k1_f0 k1_c1 k1_f1 k1_z k2_c0 k2_f0 k2_c1 k2_f1 k2_c2 k2_f2 k2_z
  have k0_c0 : c2.cell? ⟨w.heap.size, 0, none⟩ = some (.int .i64 s) := Blk.get k0 rfl
  have k0_f0 : c2.frozen? ⟨w.heap.size, 0, none⟩ = false := Blk.frozen k0 0
  have k0_c1 : c2.cell? ⟨w.heap.size, 1, none⟩ = some (.int .i64 a) := Blk.get k0 rfl
  have k0_f1 : c2.frozen? ⟨w.heap.size, 1, none⟩ = false := Blk.frozen k0 1
  have k0_c2 : c2.cell? ⟨w.heap.size, 2, none⟩ = some (.int .i64 o) := Blk.get k0 rfl
  have k0_f2 : c2.frozen? ⟨w.heap.size, 2, none⟩ = false := Blk.frozen k0 2
  have k0_z : w.heap.size < c2.heap.size := Blk.lt k0
  have k1_c0 : c2.cell? ⟨w.heap.size + 1, 0, none⟩ = some (.int .i64 x) := Blk.get k1 rfl
  have k1_f0 : c2.frozen? ⟨w.heap.size + 1, 0, none⟩ = false := Blk.frozen k1 0
  have k1_c1 : c2.cell? ⟨w.heap.size + 1, 1, none⟩ = some (.int .i64 y) := Blk.get k1 rfl
  have k1_f1 : c2.frozen? ⟨w.heap.size + 1, 1, none⟩ = false := Blk.frozen k1 1
  have k1_z : w.heap.size + 1 < c2.heap.size := Blk.lt k1
  have k2_c0 : c2.cell? ⟨w.heap.size + 2, 0, none⟩ = some (.int .i64 0) := Blk.get k2 rfl
  have k2_f0 : c2.frozen? ⟨w.heap.size + 2, 0, none⟩ = false := Blk.frozen k2 0
  have k2_c1 : c2.cell? ⟨w.heap.size + 2, 1, none⟩ = some (.int .i64 0) := Blk.get k2 rfl
  have k2_f1 : c2.frozen? ⟨w.heap.size + 2, 1, none⟩ = false := Blk.frozen k2 1
  have k2_c2 : c2.cell? ⟨w.heap.size + 2, 2, none⟩ = some (.int .i64 0) := Blk.get k2 rfl
  have k2_f2 : c2.frozen? ⟨w.heap.size + 2, 2, none⟩ = false := Blk.frozen k2 2
  have k2_z : w.heap.size + 2 < c2.heap.size := Blk.lt k2
  have q1 := Q1.out
  have q2 := Q2.out
  go_upto_region 3 with fail
  go_cut [6] (fun v6 wc => Blk wc (w.heap.size) 27 #[.int .i64 s, .int .i64 a, .int .i64 o] ∧ Blk wc (w.heap.size + 1) 47 #[.int .i64 x, .int .i64 y] ∧ Blk wc (w.heap.size + 2) 27 #[.int .i64 0, .int .i64 0, .int .i64 0] ∧ Below w.heap.size w wc ∧ v6 = .int .i64 pl)
  case first =>
    have HSd := Lib.hid (show Blk c2.drew (w.heap.size) 27 #[.int .i64 s, .int .i64 a, .int .i64 o] ∧ c2.drew.cell? ⟨w.heap.size, 0, none⟩ = some (.int .i64 s) ∧ c2.drew.cell? ⟨w.heap.size, 1, none⟩ = some (.int .i64 a) ∧ c2.drew.cell? ⟨w.heap.size, 2, none⟩ = some (.int .i64 o) ∧ Blk c2.drew (w.heap.size + 1) 47 #[.int .i64 x, .int .i64 y] ∧ c2.drew.cell? ⟨w.heap.size + 1, 0, none⟩ = some (.int .i64 x) ∧ c2.drew.cell? ⟨w.heap.size + 1, 1, none⟩ = some (.int .i64 y) ∧ Blk c2.drew (w.heap.size + 2) 27 #[.int .i64 0, .int .i64 0, .int .i64 0] ∧ c2.drew.cell? ⟨w.heap.size + 2, 0, none⟩ = some (.int .i64 0) ∧ c2.drew.cell? ⟨w.heap.size + 2, 1, none⟩ = some (.int .i64 0) ∧ c2.drew.cell? ⟨w.heap.size + 2, 2, none⟩ = some (.int .i64 0) ∧ Below w.heap.size w c2.drew from ⟨k0, k0_c0, k0_c1, k0_c2, k1, k1_c0, k1_c1, k2, k2_c0, k2_c1, k2_c2, hB.drew⟩)
    have hz : w.heap.size + 2 < c2.heap.size := k2_z
    clear hB k0_c0 k0_f0 k0_c1 k0_f1 k0_c2 k0_f2 k0_z k1_c0 k1_f0 k1_c1 k1_f1 k1_z k2_c0 k2_f0 k2_c1 k2_f1 k2_c2 k2_f2 k2_z k0 k1 k2
    go_region_held3 (fun w' => Blk w' (w.heap.size) 27 #[.int .i64 s, .int .i64 a, .int .i64 o] ∧ w'.cell? ⟨w.heap.size, 0, none⟩ = some (.int .i64 s) ∧ w'.cell? ⟨w.heap.size, 1, none⟩ = some (.int .i64 a) ∧ w'.cell? ⟨w.heap.size, 2, none⟩ = some (.int .i64 o) ∧ Blk w' (w.heap.size + 1) 47 #[.int .i64 x, .int .i64 y] ∧ w'.cell? ⟨w.heap.size + 1, 0, none⟩ = some (.int .i64 x) ∧ w'.cell? ⟨w.heap.size + 1, 1, none⟩ = some (.int .i64 y) ∧ Blk w' (w.heap.size + 2) 27 #[.int .i64 0, .int .i64 0, .int .i64 0] ∧ w'.cell? ⟨w.heap.size + 2, 0, none⟩ = some (.int .i64 0) ∧ w'.cell? ⟨w.heap.size + 2, 1, none⟩ = some (.int .i64 0) ∧ w'.cell? ⟨w.heap.size + 2, 2, none⟩ = some (.int .i64 0) ∧ Below w.heap.size w w')
      (first | exact HSd.out | (go_split_ands; go_split_ands; (repeat' apply And.intro) <;> first | (with_reducible assumption) | (with_reducible exact Blk.pure (by assumption) hbc) | (with_reducible exact Blk.get (Blk.pure (by assumption) hbc) rfl) | (with_reducible exact below_pure (by assumption) hbc) | (with_reducible exact Blk.alloc (by assumption) _) | (with_reducible exact Blk.get (Blk.alloc (by assumption) _) rfl) | (with_reducible exact Below.alloc (by assumption) (Below.size (by assumption)) _) | (with_reducible exact Blk.drew (Blk.alloc (Blk.undrew (by assumption)) _)) | (with_reducible exact Blk.get (Blk.drew (Blk.alloc (Blk.undrew (by assumption)) _)) rfl) | (with_reducible exact Below.drew (Below.alloc (below_undrew (by assumption)) (Below.size (below_undrew (by assumption))) _)) | (with_reducible exact Blk.swap (by assumption) (by omega)) | (with_reducible exact Blk.get (Blk.swap (by assumption) (by omega)) rfl) | (with_reducible exact below_swap (by assumption) (by omega))))
      (first | ((go_at_call 64; refine (specPitchPlace_any _ _ _ _).mono ?_; rintro e w2 ⟨rfl, hbc⟩); have hz : w.heap.size + 2 < w2.heap.size := (by (go_split_ands; refine Nat.lt_of_lt_of_le ?_ hbc.size; exact Blk.lt (by assumption)))))
    all_goals
      clear HSd
      go_wp2_with fail
      go_meet
      go_split_ands
      refine ⟨by assumption, by assumption, by assumption, by assumption, rfl⟩
  case rest =>
    clear hB k0_c0 k0_f0 k0_c1 k0_f1 k0_c2 k0_f2 k0_z k1_c0 k1_f0 k1_c1 k1_f1 k1_z k2_c0 k2_f0 k2_c1 k2_f1 k2_c2 k2_f2 k2_z k0 k1 k2
    obtain ⟨k0, k1, k2, hB, rfl⟩ := hcut
    have k0_c0 : wc.cell? ⟨w.heap.size, 0, none⟩ = some (.int .i64 s) := Blk.get k0 rfl
    have k0_f0 : wc.frozen? ⟨w.heap.size, 0, none⟩ = false := Blk.frozen k0 0
    have k0_c1 : wc.cell? ⟨w.heap.size, 1, none⟩ = some (.int .i64 a) := Blk.get k0 rfl
    have k0_f1 : wc.frozen? ⟨w.heap.size, 1, none⟩ = false := Blk.frozen k0 1
    have k0_c2 : wc.cell? ⟨w.heap.size, 2, none⟩ = some (.int .i64 o) := Blk.get k0 rfl
    have k0_f2 : wc.frozen? ⟨w.heap.size, 2, none⟩ = false := Blk.frozen k0 2
    have k0_z : w.heap.size < wc.heap.size := Blk.lt k0
    have k1_c0 : wc.cell? ⟨w.heap.size + 1, 0, none⟩ = some (.int .i64 x) := Blk.get k1 rfl
    have k1_f0 : wc.frozen? ⟨w.heap.size + 1, 0, none⟩ = false := Blk.frozen k1 0
    have k1_c1 : wc.cell? ⟨w.heap.size + 1, 1, none⟩ = some (.int .i64 y) := Blk.get k1 rfl
    have k1_f1 : wc.frozen? ⟨w.heap.size + 1, 1, none⟩ = false := Blk.frozen k1 1
    have k1_z : w.heap.size + 1 < wc.heap.size := Blk.lt k1
    have k2_c0 : wc.cell? ⟨w.heap.size + 2, 0, none⟩ = some (.int .i64 0) := Blk.get k2 rfl
    have k2_f0 : wc.frozen? ⟨w.heap.size + 2, 0, none⟩ = false := Blk.frozen k2 0
    have k2_c1 : wc.cell? ⟨w.heap.size + 2, 1, none⟩ = some (.int .i64 0) := Blk.get k2 rfl
    have k2_f1 : wc.frozen? ⟨w.heap.size + 2, 1, none⟩ = false := Blk.frozen k2 1
    have k2_c2 : wc.cell? ⟨w.heap.size + 2, 2, none⟩ = some (.int .i64 0) := Blk.get k2 rfl
    have k2_f2 : wc.frozen? ⟨w.heap.size + 2, 2, none⟩ = false := Blk.frozen k2 2
    have k2_z : w.heap.size + 2 < wc.heap.size := Blk.lt k2
    by_cases hn : pl < 0
    · have HR := Lib.hid (show addB s a o x y = false by rw [HA.out, hp, hq]; unfold pwB; rw [decide_eq_false (by omega)]; rfl)
      go_wp2
      refine bodyPost_ret (v := .tuple #[.agg #[.int .i64 0, .int .i64 0, .int .i64 0], .bool false]) (by simp [results, Try.results54, go_sem, *]) rfl ⟨by rw [HR.out]; rfl, by go_grown⟩
    have d0 : 0 ≤ pl := by omega
    have d1 : 0 ≤ pl / 7 := by omega
    have d2 : pl / 7 ≤ 100 := by omega
    have d3 : 0 ≤ pl % 7 := by omega
    have d4 : pl ≤ 1000 := by omega
    obtain ⟨d5, d6⟩ := natu_nonneg pl d0 p1
    have q3 : IntKind.i64.wrap (k - natu pl) = k - natu pl := IntWalk.i64_in _ (by omega)
    have r1 : pl.tmod 7 = pl % 7 := Int.tmod_eq_emod_of_nonneg d0
    have r2 : IntKind.i64.wrap (pl.tdiv 7) = pl / 7 := by rw [Int.tdiv_eq_ediv_of_nonneg d0]; exact IntWalk.i64_in _ (by omega)
    go_upto_region 6 with fail
    go_cut [7] (fun v7 wc => Blk wc (w.heap.size) 27 #[.int .i64 s, .int .i64 a, .int .i64 o] ∧ Blk wc (w.heap.size + 1) 47 #[.int .i64 x, .int .i64 y] ∧ Blk wc (w.heap.size + 2) 27 #[.int .i64 0, .int .i64 0, .int .i64 0] ∧ Below w.heap.size w wc ∧ ∃ g : Nat, v7 = .pointer (some ⟨g, 0, none⟩) ∧ Blk wc g 27 #[.int .i64 (pl % 7), .int .i64 (k - natu pl), .int .i64 (pl / 7)] ∧ w.heap.size + 2 < g)
    case first =>
      have HSd := Lib.hid (show Blk wc.drew (w.heap.size) 27 #[.int .i64 s, .int .i64 a, .int .i64 o] ∧ wc.drew.cell? ⟨w.heap.size, 0, none⟩ = some (.int .i64 s) ∧ wc.drew.cell? ⟨w.heap.size, 1, none⟩ = some (.int .i64 a) ∧ wc.drew.cell? ⟨w.heap.size, 2, none⟩ = some (.int .i64 o) ∧ Blk wc.drew (w.heap.size + 1) 47 #[.int .i64 x, .int .i64 y] ∧ wc.drew.cell? ⟨w.heap.size + 1, 0, none⟩ = some (.int .i64 x) ∧ wc.drew.cell? ⟨w.heap.size + 1, 1, none⟩ = some (.int .i64 y) ∧ Blk wc.drew (w.heap.size + 2) 27 #[.int .i64 0, .int .i64 0, .int .i64 0] ∧ wc.drew.cell? ⟨w.heap.size + 2, 0, none⟩ = some (.int .i64 0) ∧ wc.drew.cell? ⟨w.heap.size + 2, 1, none⟩ = some (.int .i64 0) ∧ wc.drew.cell? ⟨w.heap.size + 2, 2, none⟩ = some (.int .i64 0) ∧ Below w.heap.size w wc.drew from ⟨k0, k0_c0, k0_c1, k0_c2, k1, k1_c0, k1_c1, k2, k2_c0, k2_c1, k2_c2, hB.drew⟩)
      have hz : w.heap.size + 2 < wc.heap.size := k2_z
      clear hB k0_c0 k0_f0 k0_c1 k0_f1 k0_c2 k0_f2 k0_z k1_c0 k1_f0 k1_c1 k1_f1 k1_z k2_c0 k2_f0 k2_c1 k2_f1 k2_c2 k2_f2 k2_z k0 k1 k2
      go_region_held3 (fun w' => Blk w' (w.heap.size) 27 #[.int .i64 s, .int .i64 a, .int .i64 o] ∧ w'.cell? ⟨w.heap.size, 0, none⟩ = some (.int .i64 s) ∧ w'.cell? ⟨w.heap.size, 1, none⟩ = some (.int .i64 a) ∧ w'.cell? ⟨w.heap.size, 2, none⟩ = some (.int .i64 o) ∧ Blk w' (w.heap.size + 1) 47 #[.int .i64 x, .int .i64 y] ∧ w'.cell? ⟨w.heap.size + 1, 0, none⟩ = some (.int .i64 x) ∧ w'.cell? ⟨w.heap.size + 1, 1, none⟩ = some (.int .i64 y) ∧ Blk w' (w.heap.size + 2) 27 #[.int .i64 0, .int .i64 0, .int .i64 0] ∧ w'.cell? ⟨w.heap.size + 2, 0, none⟩ = some (.int .i64 0) ∧ w'.cell? ⟨w.heap.size + 2, 1, none⟩ = some (.int .i64 0) ∧ w'.cell? ⟨w.heap.size + 2, 2, none⟩ = some (.int .i64 0) ∧ Below w.heap.size w w')
        (first | exact HSd.out | (go_split_ands; go_split_ands; (repeat' apply And.intro) <;> first | (with_reducible assumption) | (with_reducible exact Blk.pure (by assumption) hbc) | (with_reducible exact Blk.get (Blk.pure (by assumption) hbc) rfl) | (with_reducible exact below_pure (by assumption) hbc) | (with_reducible exact Blk.alloc (by assumption) _) | (with_reducible exact Blk.get (Blk.alloc (by assumption) _) rfl) | (with_reducible exact Below.alloc (by assumption) (Below.size (by assumption)) _) | (with_reducible exact Blk.drew (Blk.alloc (Blk.undrew (by assumption)) _)) | (with_reducible exact Blk.get (Blk.drew (Blk.alloc (Blk.undrew (by assumption)) _)) rfl) | (with_reducible exact Below.drew (Below.alloc (below_undrew (by assumption)) (Below.size (below_undrew (by assumption))) _)) | (with_reducible exact Blk.swap (by assumption) (by omega)) | (with_reducible exact Blk.get (Blk.swap (by assumption) (by omega)) rfl) | (with_reducible exact below_swap (by assumption) (by omega)) | (with_reducible exact (Blk.ne (Blk.ne (Blk.ne (by assumption) (by first | omega | (simp; omega)) _) (by first | omega | (simp; omega)) _) (by first | omega | (simp; omega)) _)) | (with_reducible exact Blk.get (Blk.ne (Blk.ne (Blk.ne (by assumption) (by first | omega | (simp; omega)) _) (by first | omega | (simp; omega)) _) (by first | omega | (simp; omega)) _) rfl) | (with_reducible exact (Below.setCell (Below.setCell (Below.setCell (by assumption) (by first | omega | (simp; omega)) _) (by first | omega | (simp; omega)) _) (by first | omega | (simp; omega)) _))))
        (first | ((go_at_call 65; refine (specPitchKey_any _ _ _ _).mono ?_; rintro e w2 ⟨rfl, hbc⟩); have hz : w.heap.size + 2 < w2.heap.size := (by (go_split_ands; refine Nat.lt_of_lt_of_le ?_ hbc.size; exact Blk.lt (by assumption))); (try have hN := Blk.pure hN hbc); (try have hN := Blk.pure (Blk.drew hN) hbc); (try have hN := Blk.new_pure hbc); (try have hN := Blk.new_pure_drew hbc); (try (have hN0 := Blk.get (i := 0) hN rfl; have hM0 := hN.frozen 0; have hN1 := Blk.get (i := 1) hN rfl; have hM1 := hN.frozen 1; have hN2 := Blk.get (i := 2) hN rfl; have hM2 := hN.frozen 2))) | ((go_at_call 66; refine (l1Natural_any _ d0 d4 _).mono ?_; rintro e w2 ⟨rfl, hbc⟩); have hz : w.heap.size + 2 < w2.heap.size := (by (go_split_ands; refine Nat.lt_of_lt_of_le ?_ hbc.size; exact Blk.lt (by assumption))); (try have hN := Blk.pure hN hbc); (try have hN := Blk.pure (Blk.drew hN) hbc); (try have hN := Blk.new_pure hbc); (try have hN := Blk.new_pure_drew hbc); (try (have hN0 := Blk.get (i := 0) hN rfl; have hM0 := hN.frozen 0; have hN1 := Blk.get (i := 1) hN rfl; have hM1 := hN.frozen 1; have hN2 := Blk.get (i := 2) hN rfl; have hM2 := hN.frozen 2))))
      all_goals
        clear HSd
        go_wp2_with fail
        go_meet
        go_split_ands
        refine ⟨by assumption, by assumption, by assumption, by assumption, _, rfl, ?_, ?_⟩
        · first | exact Blk.put3 hN | exact Blk.new' rfl
        · omega
    case rest =>
      clear hB k0_c0 k0_f0 k0_c1 k0_f1 k0_c2 k0_f2 k0_z k1_c0 k1_f0 k1_c1 k1_f1 k1_z k2_c0 k2_f0 k2_c1 k2_f1 k2_c2 k2_f2 k2_z k0 k1 k2
      obtain ⟨k0, k1, k2, hB, g3, rfl, k3, hg3⟩ := hcut
      have k0_c0 : wc.cell? ⟨w.heap.size, 0, none⟩ = some (.int .i64 s) := Blk.get k0 rfl
      have k0_f0 : wc.frozen? ⟨w.heap.size, 0, none⟩ = false := Blk.frozen k0 0
      have k0_c1 : wc.cell? ⟨w.heap.size, 1, none⟩ = some (.int .i64 a) := Blk.get k0 rfl
      have k0_f1 : wc.frozen? ⟨w.heap.size, 1, none⟩ = false := Blk.frozen k0 1
      have k0_c2 : wc.cell? ⟨w.heap.size, 2, none⟩ = some (.int .i64 o) := Blk.get k0 rfl
      have k0_f2 : wc.frozen? ⟨w.heap.size, 2, none⟩ = false := Blk.frozen k0 2
      have k0_z : w.heap.size < wc.heap.size := Blk.lt k0
      have k1_c0 : wc.cell? ⟨w.heap.size + 1, 0, none⟩ = some (.int .i64 x) := Blk.get k1 rfl
      have k1_f0 : wc.frozen? ⟨w.heap.size + 1, 0, none⟩ = false := Blk.frozen k1 0
      have k1_c1 : wc.cell? ⟨w.heap.size + 1, 1, none⟩ = some (.int .i64 y) := Blk.get k1 rfl
      have k1_f1 : wc.frozen? ⟨w.heap.size + 1, 1, none⟩ = false := Blk.frozen k1 1
      have k1_z : w.heap.size + 1 < wc.heap.size := Blk.lt k1
      have k2_c0 : wc.cell? ⟨w.heap.size + 2, 0, none⟩ = some (.int .i64 0) := Blk.get k2 rfl
      have k2_f0 : wc.frozen? ⟨w.heap.size + 2, 0, none⟩ = false := Blk.frozen k2 0
      have k2_c1 : wc.cell? ⟨w.heap.size + 2, 1, none⟩ = some (.int .i64 0) := Blk.get k2 rfl
      have k2_f1 : wc.frozen? ⟨w.heap.size + 2, 1, none⟩ = false := Blk.frozen k2 1
      have k2_c2 : wc.cell? ⟨w.heap.size + 2, 2, none⟩ = some (.int .i64 0) := Blk.get k2 rfl
      have k2_f2 : wc.frozen? ⟨w.heap.size + 2, 2, none⟩ = false := Blk.frozen k2 2
      have k2_z : w.heap.size + 2 < wc.heap.size := Blk.lt k2
      have k3_c0 : wc.cell? ⟨g3, 0, none⟩ = some (.int .i64 (pl % 7)) := Blk.get k3 rfl
      have k3_f0 : wc.frozen? ⟨g3, 0, none⟩ = false := Blk.frozen k3 0
      have k3_c1 : wc.cell? ⟨g3, 1, none⟩ = some (.int .i64 (k - natu pl)) := Blk.get k3 rfl
      have k3_f1 : wc.frozen? ⟨g3, 1, none⟩ = false := Blk.frozen k3 1
      have k3_c2 : wc.cell? ⟨g3, 2, none⟩ = some (.int .i64 (pl / 7)) := Blk.get k3 rfl
      have k3_f2 : wc.frozen? ⟨g3, 2, none⟩ = false := Blk.frozen k3 2
      have k3_z : g3 < wc.heap.size := Blk.lt k3
      clear q1 q2 q3 r1 r2
      cases hw : pitchB (pl % 7) (k - natu pl) (pl / 7)
      · have HR := Lib.hid (show addB s a o x y = false by rw [HA.out, hp, hq]; unfold pwB; rw [hw]; simp)
        go_wp2_with fail
        go_call (specPitchValid_any _ _ _ _) as e c3 ⟨rfl, hb⟩
        replace k0 : Blk c3 (w.heap.size) 27 #[.int .i64 s, .int .i64 a, .int .i64 o] := Blk.pure (by repeat' (first | (with_reducible assumption) | (with_reducible exact Blk.new _ _ _) | (with_reducible exact Blk.new' (by simp)) | (with_reducible refine Blk.alloc ?_ _) | (with_reducible refine Blk.drew ?_) | (with_reducible refine Blk.drewN ?_ _) | (with_reducible refine Blk.ne ?_ ?_ _) | omega | (simp; omega))) hb
        replace k1 : Blk c3 (w.heap.size + 1) 47 #[.int .i64 x, .int .i64 y] := Blk.pure (by repeat' (first | (with_reducible assumption) | (with_reducible exact Blk.new _ _ _) | (with_reducible exact Blk.new' (by simp)) | (with_reducible refine Blk.alloc ?_ _) | (with_reducible refine Blk.drew ?_) | (with_reducible refine Blk.drewN ?_ _) | (with_reducible refine Blk.ne ?_ ?_ _) | omega | (simp; omega))) hb
        replace k2 : Blk c3 (w.heap.size + 2) 27 #[.int .i64 0, .int .i64 0, .int .i64 0] := Blk.pure (by repeat' (first | (with_reducible assumption) | (with_reducible exact Blk.new _ _ _) | (with_reducible exact Blk.new' (by simp)) | (with_reducible refine Blk.alloc ?_ _) | (with_reducible refine Blk.drew ?_) | (with_reducible refine Blk.drewN ?_ _) | (with_reducible refine Blk.ne ?_ ?_ _) | omega | (simp; omega))) hb
        replace k3 : Blk c3 (g3) 27 #[.int .i64 (pl % 7), .int .i64 (k - natu pl), .int .i64 (pl / 7)] := Blk.pure (by repeat' (first | (with_reducible assumption) | (with_reducible exact Blk.new _ _ _) | (with_reducible exact Blk.new' (by simp)) | (with_reducible refine Blk.alloc ?_ _) | (with_reducible refine Blk.drew ?_) | (with_reducible refine Blk.drewN ?_ _) | (with_reducible refine Blk.ne ?_ ?_ _) | omega | (simp; omega))) hb
        replace hB := below_pure (w := w) (by go_grown) hb
        clear hb
        clear k0_c0 k0_f0 k0_c1 k0_f1 k0_c2 k0_f2 k0_z k1_c0 k1_f0 k1_c1 k1_f1 k1_z k2_c0 k2_f0 k2_c1 k2_f1 k2_c2 k2_f2 k2_z k3_c0 k3_f0 k3_c1 k3_f1 k3_c2 k3_f2 k3_z
        have k0_c0 : c3.cell? ⟨w.heap.size, 0, none⟩ = some (.int .i64 s) := Blk.get k0 rfl
        have k0_f0 : c3.frozen? ⟨w.heap.size, 0, none⟩ = false := Blk.frozen k0 0
        have k0_c1 : c3.cell? ⟨w.heap.size, 1, none⟩ = some (.int .i64 a) := Blk.get k0 rfl
        have k0_f1 : c3.frozen? ⟨w.heap.size, 1, none⟩ = false := Blk.frozen k0 1
        have k0_c2 : c3.cell? ⟨w.heap.size, 2, none⟩ = some (.int .i64 o) := Blk.get k0 rfl
        have k0_f2 : c3.frozen? ⟨w.heap.size, 2, none⟩ = false := Blk.frozen k0 2
        have k0_z : w.heap.size < c3.heap.size := Blk.lt k0
        have k1_c0 : c3.cell? ⟨w.heap.size + 1, 0, none⟩ = some (.int .i64 x) := Blk.get k1 rfl
        have k1_f0 : c3.frozen? ⟨w.heap.size + 1, 0, none⟩ = false := Blk.frozen k1 0
        have k1_c1 : c3.cell? ⟨w.heap.size + 1, 1, none⟩ = some (.int .i64 y) := Blk.get k1 rfl
        have k1_f1 : c3.frozen? ⟨w.heap.size + 1, 1, none⟩ = false := Blk.frozen k1 1
        have k1_z : w.heap.size + 1 < c3.heap.size := Blk.lt k1
        have k2_c0 : c3.cell? ⟨w.heap.size + 2, 0, none⟩ = some (.int .i64 0) := Blk.get k2 rfl
        have k2_f0 : c3.frozen? ⟨w.heap.size + 2, 0, none⟩ = false := Blk.frozen k2 0
        have k2_c1 : c3.cell? ⟨w.heap.size + 2, 1, none⟩ = some (.int .i64 0) := Blk.get k2 rfl
        have k2_f1 : c3.frozen? ⟨w.heap.size + 2, 1, none⟩ = false := Blk.frozen k2 1
        have k2_c2 : c3.cell? ⟨w.heap.size + 2, 2, none⟩ = some (.int .i64 0) := Blk.get k2 rfl
        have k2_f2 : c3.frozen? ⟨w.heap.size + 2, 2, none⟩ = false := Blk.frozen k2 2
        have k2_z : w.heap.size + 2 < c3.heap.size := Blk.lt k2
        have k3_c0 : c3.cell? ⟨g3, 0, none⟩ = some (.int .i64 (pl % 7)) := Blk.get k3 rfl
        have k3_f0 : c3.frozen? ⟨g3, 0, none⟩ = false := Blk.frozen k3 0
        have k3_c1 : c3.cell? ⟨g3, 1, none⟩ = some (.int .i64 (k - natu pl)) := Blk.get k3 rfl
        have k3_f1 : c3.frozen? ⟨g3, 1, none⟩ = false := Blk.frozen k3 1
        have k3_c2 : c3.cell? ⟨g3, 2, none⟩ = some (.int .i64 (pl / 7)) := Blk.get k3 rfl
        have k3_f2 : c3.frozen? ⟨g3, 2, none⟩ = false := Blk.frozen k3 2
        have k3_z : g3 < c3.heap.size := Blk.lt k3
        go_wp2
        refine bodyPost_ret (v := .tuple #[.agg #[.int .i64 0, .int .i64 0, .int .i64 0], .bool false]) (by simp [results, Try.results54, go_sem, *]) rfl ⟨by rw [HR.out]; rfl, by go_grown⟩
      have HR := Lib.hid (show addB s a o x y = true by rw [HA.out, hp, hq]; unfold pwB; rw [hw, decide_eq_true d0]; rfl)
      go_wp2_with fail
      go_call (specPitchValid_any _ _ _ _) as e c3 ⟨rfl, hb⟩
      replace k0 : Blk c3 (w.heap.size) 27 #[.int .i64 s, .int .i64 a, .int .i64 o] := Blk.pure (by repeat' (first | (with_reducible assumption) | (with_reducible exact Blk.new _ _ _) | (with_reducible exact Blk.new' (by simp)) | (with_reducible refine Blk.alloc ?_ _) | (with_reducible refine Blk.drew ?_) | (with_reducible refine Blk.drewN ?_ _) | (with_reducible refine Blk.ne ?_ ?_ _) | omega | (simp; omega))) hb
      replace k1 : Blk c3 (w.heap.size + 1) 47 #[.int .i64 x, .int .i64 y] := Blk.pure (by repeat' (first | (with_reducible assumption) | (with_reducible exact Blk.new _ _ _) | (with_reducible exact Blk.new' (by simp)) | (with_reducible refine Blk.alloc ?_ _) | (with_reducible refine Blk.drew ?_) | (with_reducible refine Blk.drewN ?_ _) | (with_reducible refine Blk.ne ?_ ?_ _) | omega | (simp; omega))) hb
      replace k2 : Blk c3 (w.heap.size + 2) 27 #[.int .i64 0, .int .i64 0, .int .i64 0] := Blk.pure (by repeat' (first | (with_reducible assumption) | (with_reducible exact Blk.new _ _ _) | (with_reducible exact Blk.new' (by simp)) | (with_reducible refine Blk.alloc ?_ _) | (with_reducible refine Blk.drew ?_) | (with_reducible refine Blk.drewN ?_ _) | (with_reducible refine Blk.ne ?_ ?_ _) | omega | (simp; omega))) hb
      replace k3 : Blk c3 (g3) 27 #[.int .i64 (pl % 7), .int .i64 (k - natu pl), .int .i64 (pl / 7)] := Blk.pure (by repeat' (first | (with_reducible assumption) | (with_reducible exact Blk.new _ _ _) | (with_reducible exact Blk.new' (by simp)) | (with_reducible refine Blk.alloc ?_ _) | (with_reducible refine Blk.drew ?_) | (with_reducible refine Blk.drewN ?_ _) | (with_reducible refine Blk.ne ?_ ?_ _) | omega | (simp; omega))) hb
      replace hB := below_pure (w := w) (by go_grown) hb
      clear hb
      clear k0_c0 k0_f0 k0_c1 k0_f1 k0_c2 k0_f2 k0_z k1_c0 k1_f0 k1_c1 k1_f1 k1_z k2_c0 k2_f0 k2_c1 k2_f1 k2_c2 k2_f2 k2_z k3_c0 k3_f0 k3_c1 k3_f1 k3_c2 k3_f2 k3_z
      have k0_c0 : c3.cell? ⟨w.heap.size, 0, none⟩ = some (.int .i64 s) := Blk.get k0 rfl
      have k0_f0 : c3.frozen? ⟨w.heap.size, 0, none⟩ = false := Blk.frozen k0 0
      have k0_c1 : c3.cell? ⟨w.heap.size, 1, none⟩ = some (.int .i64 a) := Blk.get k0 rfl
      have k0_f1 : c3.frozen? ⟨w.heap.size, 1, none⟩ = false := Blk.frozen k0 1
      have k0_c2 : c3.cell? ⟨w.heap.size, 2, none⟩ = some (.int .i64 o) := Blk.get k0 rfl
      have k0_f2 : c3.frozen? ⟨w.heap.size, 2, none⟩ = false := Blk.frozen k0 2
      have k0_z : w.heap.size < c3.heap.size := Blk.lt k0
      have k1_c0 : c3.cell? ⟨w.heap.size + 1, 0, none⟩ = some (.int .i64 x) := Blk.get k1 rfl
      have k1_f0 : c3.frozen? ⟨w.heap.size + 1, 0, none⟩ = false := Blk.frozen k1 0
      have k1_c1 : c3.cell? ⟨w.heap.size + 1, 1, none⟩ = some (.int .i64 y) := Blk.get k1 rfl
      have k1_f1 : c3.frozen? ⟨w.heap.size + 1, 1, none⟩ = false := Blk.frozen k1 1
      have k1_z : w.heap.size + 1 < c3.heap.size := Blk.lt k1
      have k2_c0 : c3.cell? ⟨w.heap.size + 2, 0, none⟩ = some (.int .i64 0) := Blk.get k2 rfl
      have k2_f0 : c3.frozen? ⟨w.heap.size + 2, 0, none⟩ = false := Blk.frozen k2 0
      have k2_c1 : c3.cell? ⟨w.heap.size + 2, 1, none⟩ = some (.int .i64 0) := Blk.get k2 rfl
      have k2_f1 : c3.frozen? ⟨w.heap.size + 2, 1, none⟩ = false := Blk.frozen k2 1
      have k2_c2 : c3.cell? ⟨w.heap.size + 2, 2, none⟩ = some (.int .i64 0) := Blk.get k2 rfl
      have k2_f2 : c3.frozen? ⟨w.heap.size + 2, 2, none⟩ = false := Blk.frozen k2 2
      have k2_z : w.heap.size + 2 < c3.heap.size := Blk.lt k2
      have k3_c0 : c3.cell? ⟨g3, 0, none⟩ = some (.int .i64 (pl % 7)) := Blk.get k3 rfl
      have k3_f0 : c3.frozen? ⟨g3, 0, none⟩ = false := Blk.frozen k3 0
      have k3_c1 : c3.cell? ⟨g3, 1, none⟩ = some (.int .i64 (k - natu pl)) := Blk.get k3 rfl
      have k3_f1 : c3.frozen? ⟨g3, 1, none⟩ = false := Blk.frozen k3 1
      have k3_c2 : c3.cell? ⟨g3, 2, none⟩ = some (.int .i64 (pl / 7)) := Blk.get k3 rfl
      have k3_f2 : c3.frozen? ⟨g3, 2, none⟩ = false := Blk.frozen k3 2
      have k3_z : g3 < c3.heap.size := Blk.lt k3
      go_wp2
      refine bodyPost_ret (v := .tuple #[.agg #[.int .i64 (pl % 7), .int .i64 (k - natu pl), .int .i64 (pl / 7)], .bool true]) (by simp [results, Try.results54, go_sem, *]) rfl ⟨by rw [HR.out]; rfl, by go_grown⟩
end Go.Proofs.Ytmkkhbplfedpoaa

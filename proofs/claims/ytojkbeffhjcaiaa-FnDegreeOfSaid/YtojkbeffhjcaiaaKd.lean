/- The walks of the search of a key by its tonic. No condition. -/
import Derived.Test.YtojkbeffhjcaiaaKb
namespace Go.Proofs.Ytojkbeffhjcaiaa
open Go.RowKit

/-- Does key number j (from seven flats on) have this tonic? -/
def hitB (s a : Int) (m : Bool) (j : Nat) : Bool := ton ((j : Int) - 7) m == s && alt ((j : Int) - 7) (ton ((j : Int) - 7) m) == a
def kofN (s a o : Int) (m : Bool) : Option Nat := if pitchB s a o then (List.range 15).find? (hitB s a m) else none
def kofV (s a o : Int) (m : Bool) : Int := match kofN s a o m with | some j => (j : Int) - 7 | none => 0
def kofB (s a o : Int) (m : Bool) : Bool := (kofN s a o m).isSome
theorem find_range {p : Nat → Bool} {n k : Nat} (hk : k < n) (h : ∀ j, j < k → p j = false) (hp : p k = true) : (List.range n).find? p = some k := by
  rw [List.find?_range_eq_some]
  exact ⟨hp, by simpa using hk, fun j hj => by simp [h j hj]⟩
theorem find_none {p : Nat → Bool} {n : Nat} (h : ∀ j, j < n → p j = false) : (List.range n).find? p = none := by
  rw [List.find?_range_eq_none]
  intro j hj
  simp [h j hj]
theorem kof_some {s a o : Int} {m : Bool} {k : Nat} (hv : pitchB s a o = true) (hk : k < 15) (h : ∀ j, j < k → hitB s a m j = false) (hp : hitB s a m k = true) : kofV s a o m = (k : Int) - 7 ∧ kofB s a o m = true := by
  have e : kofN s a o m = some k := by unfold kofN; rw [if_pos hv]; exact find_range hk h hp
  unfold kofV kofB
  rw [e]
  exact ⟨rfl, rfl⟩
theorem kof_none {s a o : Int} {m : Bool} (h : pitchB s a o = true → ∀ j, j < 15 → hitB s a m j = false) : kofV s a o m = 0 ∧ kofB s a o m = false := by
  have e : kofN s a o m = none := by
    unfold kofN
    cases hv : pitchB s a o
    · rfl
    · rw [if_pos rfl]
      exact find_none (h hv)
  unfold kofV kofB
  rw [e]
  exact ⟨rfl, rfl⟩
/-- What holds at a round's head. -/
def KofR (s a : Int) (m : Bool) (k : Nat) : Prop := ∀ j, j < k → hitB s a m j = false
theorem kofR_succ {s a : Int} {m : Bool} {k : Nat} (h : KofR s a m k) (hk : hitB s a m k = false) : KofR s a m (k + 1) := fun j hj => by
  rcases Nat.lt_or_eq_of_le (Nat.le_of_lt_succ hj) with h1 | h1
  · exact h j h1
  · rw [h1]
    exact hk

set_option maxHeartbeats 2000000 in
theorem keyOf_any (s a o : Int) (m : Bool) (w : World) :
    Calls Try.prog 28 #[.agg #[.int .i64 s, .int .i64 a, .int .i64 o], .bool m] w (Gives (.tuple #[.int .i64 (kofV s a o m), .bool (kofB s a o m)]) w) := by
  cases hv : pitchB s a o
  · obtain ⟨e1, e2⟩ := kof_none (s := s) (a := a) (o := o) (m := m) (fun h => by rw [hv] at h; cases h)
    have H1 := Lib.hid e1
    have H2 := Lib.hid e2
    clear e1 e2
    go_enter Try.func28, Try.ntmps28
    go_wp2_with fail
    have k0 : Blk (w.alloc (Obj.cells #[.int .i64 s, .int .i64 a, .int .i64 o] 27)) (w.heap.size) 27 #[.int .i64 s, .int .i64 a, .int .i64 o] := (by repeat' (first | (with_reducible assumption) | (with_reducible exact Blk.new _ _ _) | (with_reducible exact Blk.new' (by simp)) | (with_reducible refine Blk.alloc ?_ _) | (with_reducible refine Blk.drew ?_) | (with_reducible refine Blk.drewN ?_ _) | (with_reducible refine Blk.ne ?_ ?_ _) | omega | (simp; omega)))
    have hB : Below w.heap.size w (w.alloc (Obj.cells #[.int .i64 s, .int .i64 a, .int .i64 o] 27)) := by go_grown
    generalize (w.alloc (Obj.cells #[.int .i64 s, .int .i64 a, .int .i64 o] 27)) = c0 at *
    have k0_c0 : c0.cell? ⟨w.heap.size, 0, none⟩ = some (.int .i64 s) := Blk.get k0 rfl
    have k0_f0 : c0.frozen? ⟨w.heap.size, 0, none⟩ = false := Blk.frozen k0 0
    have k0_c1 : c0.cell? ⟨w.heap.size, 1, none⟩ = some (.int .i64 a) := Blk.get k0 rfl
    have k0_f1 : c0.frozen? ⟨w.heap.size, 1, none⟩ = false := Blk.frozen k0 1
    have k0_c2 : c0.cell? ⟨w.heap.size, 2, none⟩ = some (.int .i64 o) := Blk.get k0 rfl
    have k0_f2 : c0.frozen? ⟨w.heap.size, 2, none⟩ = false := Blk.frozen k0 2
    have k0_z : w.heap.size < c0.heap.size := Blk.lt k0
    refine wp_loop_rounds 1 ?_
    rw [rounds_succ]
    go_wp2_with fail
    go_call (pitchValid_any _ _ _ _) as e c1 ⟨rfl, hb⟩
    replace k0 : Blk c1 (w.heap.size) 27 #[.int .i64 s, .int .i64 a, .int .i64 o] := Blk.pure (by repeat' (first | (with_reducible assumption) | (with_reducible exact Blk.new _ _ _) | (with_reducible exact Blk.new' (by simp)) | (with_reducible refine Blk.alloc ?_ _) | (with_reducible refine Blk.drew ?_) | (with_reducible refine Blk.drewN ?_ _) | (with_reducible refine Blk.ne ?_ ?_ _) | omega | (simp; omega))) hb
    replace hB := below_pure (w := w) (by go_grown) hb
    clear hb
    clear k0_c0 k0_f0 k0_c1 k0_f1 k0_c2 k0_f2 k0_z
    have k0_c0 : c1.cell? ⟨w.heap.size, 0, none⟩ = some (.int .i64 s) := Blk.get k0 rfl
    have k0_f0 : c1.frozen? ⟨w.heap.size, 0, none⟩ = false := Blk.frozen k0 0
    have k0_c1 : c1.cell? ⟨w.heap.size, 1, none⟩ = some (.int .i64 a) := Blk.get k0 rfl
    have k0_f1 : c1.frozen? ⟨w.heap.size, 1, none⟩ = false := Blk.frozen k0 1
    have k0_c2 : c1.cell? ⟨w.heap.size, 2, none⟩ = some (.int .i64 o) := Blk.get k0 rfl
    have k0_f2 : c1.frozen? ⟨w.heap.size, 2, none⟩ = false := Blk.frozen k0 2
    have k0_z : w.heap.size < c1.heap.size := Blk.lt k0
    go_wp2
    go_ret2
    exact ⟨by rw [H1.out, H2.out]; rfl, hB⟩
  go_enter Try.func28, Try.ntmps28
  go_wp2_with fail
  have k0 : Blk (w.alloc (Obj.cells #[.int .i64 s, .int .i64 a, .int .i64 o] 27)) (w.heap.size) 27 #[.int .i64 s, .int .i64 a, .int .i64 o] := (by repeat' (first | (with_reducible assumption) | (with_reducible exact Blk.new _ _ _) | (with_reducible exact Blk.new' (by simp)) | (with_reducible refine Blk.alloc ?_ _) | (with_reducible refine Blk.drew ?_) | (with_reducible refine Blk.drewN ?_ _) | (with_reducible refine Blk.ne ?_ ?_ _) | omega | (simp; omega)))
  have hB : Below w.heap.size w (w.alloc (Obj.cells #[.int .i64 s, .int .i64 a, .int .i64 o] 27)) := by go_grown
  generalize (w.alloc (Obj.cells #[.int .i64 s, .int .i64 a, .int .i64 o] 27)) = c0 at *
  have k0_c0 : c0.cell? ⟨w.heap.size, 0, none⟩ = some (.int .i64 s) := Blk.get k0 rfl
  have k0_f0 : c0.frozen? ⟨w.heap.size, 0, none⟩ = false := Blk.frozen k0 0
  have k0_c1 : c0.cell? ⟨w.heap.size, 1, none⟩ = some (.int .i64 a) := Blk.get k0 rfl
  have k0_f1 : c0.frozen? ⟨w.heap.size, 1, none⟩ = false := Blk.frozen k0 1
  have k0_c2 : c0.cell? ⟨w.heap.size, 2, none⟩ = some (.int .i64 o) := Blk.get k0 rfl
  have k0_f2 : c0.frozen? ⟨w.heap.size, 2, none⟩ = false := Blk.frozen k0 2
  have k0_z : w.heap.size < c0.heap.size := Blk.lt k0
  go_loopw [6] (fun fv wr => ∃ k : Nat, k ≤ 15 ∧ fv = .int .i64 ((k : Int) - 7) ∧ Hid (KofR s a m k) ∧ Blk wr w.heap.size 27 #[.int .i64 s, .int .i64 a, .int .i64 o] ∧ Below w.heap.size w wr) (fun fv _ => (8 - intOf fv).toNat)
  case atStart => exact ⟨0, by omega, rfl, Lib.hid (fun j hj => absurd hj (by omega)), k0, hB⟩
  case round =>
    clear hB k0_c0 k0_f0 k0_c1 k0_f1 k0_c2 k0_f2 k0_z k0
    obtain ⟨k, hk, rfl, HR, k0, hB⟩ := hrel
    by_cases hlt : k < 15
    · have b0 : -7 ≤ (k : Int) - 7 := by omega
      have b1 : (k : Int) - 7 ≤ 7 := by omega
      have hin : inR ((k : Int) - 7) (-7) 7 = true := by unfold inR; exact decide_eq_true ⟨b0, b1⟩
      have HK : ∀ W, Calls Try.prog 23 #[.int .i64 ((k : Int) - 7), .bool m] W (Gives (.tuple #[.agg #[.int .i64 (ton ((k : Int) - 7) m), .int .i64 (alt ((k : Int) - 7) (ton ((k : Int) - 7) m)), .int .i64 4], .bool true]) W) := fun W => by
        have h := keyTonic_any ((k : Int) - 7) m W
        rw [tonS_t hin, tonA_t hin, tonO_t hin, hin] at h
        exact h
      have HK := Lib.hid HK
      have HH := Lib.hid (show hitB s a m k = (ton ((k : Int) - 7) m == s && alt ((k : Int) - 7) (ton ((k : Int) - 7) m) == a) from rfl)
      clear hin
      generalize ton ((k : Int) - 7) m = tt at HK HH
      generalize alt ((k : Int) - 7) tt = aa at HK HH
      cases h1 : tt == s
      · have k0_c0 : wr.cell? ⟨w.heap.size, 0, none⟩ = some (.int .i64 s) := Blk.get k0 rfl
        have k0_f0 : wr.frozen? ⟨w.heap.size, 0, none⟩ = false := Blk.frozen k0 0
        have k0_c1 : wr.cell? ⟨w.heap.size, 1, none⟩ = some (.int .i64 a) := Blk.get k0 rfl
        have k0_f1 : wr.frozen? ⟨w.heap.size, 1, none⟩ = false := Blk.frozen k0 1
        have k0_c2 : wr.cell? ⟨w.heap.size, 2, none⟩ = some (.int .i64 o) := Blk.get k0 rfl
        have k0_f2 : wr.frozen? ⟨w.heap.size, 2, none⟩ = false := Blk.frozen k0 2
        have k0_z : w.heap.size < wr.heap.size := Blk.lt k0
        go_wp2_with fail
        go_call (pitchValid_any _ _ _ _) as e c1 ⟨rfl, hb⟩
        replace k0 : Blk c1 (w.heap.size) 27 #[.int .i64 s, .int .i64 a, .int .i64 o] := Blk.pure (by repeat' (first | (with_reducible assumption) | (with_reducible exact Blk.new _ _ _) | (with_reducible exact Blk.new' (by simp)) | (with_reducible refine Blk.alloc ?_ _) | (with_reducible refine Blk.drew ?_) | (with_reducible refine Blk.drewN ?_ _) | (with_reducible refine Blk.ne ?_ ?_ _) | omega | (simp; omega))) hb
        replace hB := below_pure (w := w) (by go_grown) hb
        clear hb
        clear k0_c0 k0_f0 k0_c1 k0_f1 k0_c2 k0_f2 k0_z
        have k0_c0 : c1.cell? ⟨w.heap.size, 0, none⟩ = some (.int .i64 s) := Blk.get k0 rfl
        have k0_f0 : c1.frozen? ⟨w.heap.size, 0, none⟩ = false := Blk.frozen k0 0
        have k0_c1 : c1.cell? ⟨w.heap.size, 1, none⟩ = some (.int .i64 a) := Blk.get k0 rfl
        have k0_f1 : c1.frozen? ⟨w.heap.size, 1, none⟩ = false := Blk.frozen k0 1
        have k0_c2 : c1.cell? ⟨w.heap.size, 2, none⟩ = some (.int .i64 o) := Blk.get k0 rfl
        have k0_f2 : c1.frozen? ⟨w.heap.size, 2, none⟩ = false := Blk.frozen k0 2
        have k0_z : w.heap.size < c1.heap.size := Blk.lt k0
        go_wp2_with fail
        go_call (HK.out _) as e c2 ⟨rfl, hb⟩
        replace k0 : Blk c2 (w.heap.size) 27 #[.int .i64 s, .int .i64 a, .int .i64 o] := Blk.pure (by repeat' (first | (with_reducible assumption) | (with_reducible exact Blk.new _ _ _) | (with_reducible exact Blk.new' (by simp)) | (with_reducible refine Blk.alloc ?_ _) | (with_reducible refine Blk.drew ?_) | (with_reducible refine Blk.drewN ?_ _) | (with_reducible refine Blk.ne ?_ ?_ _) | omega | (simp; omega))) hb
        replace hB := below_pure (w := w) (by go_grown) hb
        clear hb
        clear k0_c0 k0_f0 k0_c1 k0_f1 k0_c2 k0_f2 k0_z
        have k0_c0 : c2.cell? ⟨w.heap.size, 0, none⟩ = some (.int .i64 s) := Blk.get k0 rfl
        have k0_f0 : c2.frozen? ⟨w.heap.size, 0, none⟩ = false := Blk.frozen k0 0
        have k0_c1 : c2.cell? ⟨w.heap.size, 1, none⟩ = some (.int .i64 a) := Blk.get k0 rfl
        have k0_f1 : c2.frozen? ⟨w.heap.size, 1, none⟩ = false := Blk.frozen k0 1
        have k0_c2 : c2.cell? ⟨w.heap.size, 2, none⟩ = some (.int .i64 o) := Blk.get k0 rfl
        have k0_f2 : c2.frozen? ⟨w.heap.size, 2, none⟩ = false := Blk.frozen k0 2
        have k0_z : w.heap.size < c2.heap.size := Blk.lt k0
        go_wp2
        have HS := Lib.hid (kofR_succ HR.out (HH.out.trans (by rw [h1]; rfl)))
        go_roundw
        case rel => exact ⟨k + 1, by omega, by go_num, HS, (by repeat' (first | (with_reducible assumption) | (with_reducible exact Blk.new _ _ _) | (with_reducible exact Blk.new' (by simp)) | (with_reducible refine Blk.alloc ?_ _) | (with_reducible refine Blk.drew ?_) | (with_reducible refine Blk.drewN ?_ _) | (with_reducible refine Blk.ne ?_ ?_ _) | omega | (simp; omega))), by go_grown⟩
        case measure => simp [intOf]; omega
      cases h2 : aa == a
      · have k0_c0 : wr.cell? ⟨w.heap.size, 0, none⟩ = some (.int .i64 s) := Blk.get k0 rfl
        have k0_f0 : wr.frozen? ⟨w.heap.size, 0, none⟩ = false := Blk.frozen k0 0
        have k0_c1 : wr.cell? ⟨w.heap.size, 1, none⟩ = some (.int .i64 a) := Blk.get k0 rfl
        have k0_f1 : wr.frozen? ⟨w.heap.size, 1, none⟩ = false := Blk.frozen k0 1
        have k0_c2 : wr.cell? ⟨w.heap.size, 2, none⟩ = some (.int .i64 o) := Blk.get k0 rfl
        have k0_f2 : wr.frozen? ⟨w.heap.size, 2, none⟩ = false := Blk.frozen k0 2
        have k0_z : w.heap.size < wr.heap.size := Blk.lt k0
        go_wp2_with fail
        go_call (pitchValid_any _ _ _ _) as e c1 ⟨rfl, hb⟩
        replace k0 : Blk c1 (w.heap.size) 27 #[.int .i64 s, .int .i64 a, .int .i64 o] := Blk.pure (by repeat' (first | (with_reducible assumption) | (with_reducible exact Blk.new _ _ _) | (with_reducible exact Blk.new' (by simp)) | (with_reducible refine Blk.alloc ?_ _) | (with_reducible refine Blk.drew ?_) | (with_reducible refine Blk.drewN ?_ _) | (with_reducible refine Blk.ne ?_ ?_ _) | omega | (simp; omega))) hb
        replace hB := below_pure (w := w) (by go_grown) hb
        clear hb
        clear k0_c0 k0_f0 k0_c1 k0_f1 k0_c2 k0_f2 k0_z
        have k0_c0 : c1.cell? ⟨w.heap.size, 0, none⟩ = some (.int .i64 s) := Blk.get k0 rfl
        have k0_f0 : c1.frozen? ⟨w.heap.size, 0, none⟩ = false := Blk.frozen k0 0
        have k0_c1 : c1.cell? ⟨w.heap.size, 1, none⟩ = some (.int .i64 a) := Blk.get k0 rfl
        have k0_f1 : c1.frozen? ⟨w.heap.size, 1, none⟩ = false := Blk.frozen k0 1
        have k0_c2 : c1.cell? ⟨w.heap.size, 2, none⟩ = some (.int .i64 o) := Blk.get k0 rfl
        have k0_f2 : c1.frozen? ⟨w.heap.size, 2, none⟩ = false := Blk.frozen k0 2
        have k0_z : w.heap.size < c1.heap.size := Blk.lt k0
        go_wp2_with fail
        go_call (HK.out _) as e c2 ⟨rfl, hb⟩
        replace k0 : Blk c2 (w.heap.size) 27 #[.int .i64 s, .int .i64 a, .int .i64 o] := Blk.pure (by repeat' (first | (with_reducible assumption) | (with_reducible exact Blk.new _ _ _) | (with_reducible exact Blk.new' (by simp)) | (with_reducible refine Blk.alloc ?_ _) | (with_reducible refine Blk.drew ?_) | (with_reducible refine Blk.drewN ?_ _) | (with_reducible refine Blk.ne ?_ ?_ _) | omega | (simp; omega))) hb
        replace hB := below_pure (w := w) (by go_grown) hb
        clear hb
        clear k0_c0 k0_f0 k0_c1 k0_f1 k0_c2 k0_f2 k0_z
        have k0_c0 : c2.cell? ⟨w.heap.size, 0, none⟩ = some (.int .i64 s) := Blk.get k0 rfl
        have k0_f0 : c2.frozen? ⟨w.heap.size, 0, none⟩ = false := Blk.frozen k0 0
        have k0_c1 : c2.cell? ⟨w.heap.size, 1, none⟩ = some (.int .i64 a) := Blk.get k0 rfl
        have k0_f1 : c2.frozen? ⟨w.heap.size, 1, none⟩ = false := Blk.frozen k0 1
        have k0_c2 : c2.cell? ⟨w.heap.size, 2, none⟩ = some (.int .i64 o) := Blk.get k0 rfl
        have k0_f2 : c2.frozen? ⟨w.heap.size, 2, none⟩ = false := Blk.frozen k0 2
        have k0_z : w.heap.size < c2.heap.size := Blk.lt k0
        go_wp2
        have HS := Lib.hid (kofR_succ HR.out (HH.out.trans (by rw [h1, h2]; rfl)))
        go_roundw
        case rel => exact ⟨k + 1, by omega, by go_num, HS, (by repeat' (first | (with_reducible assumption) | (with_reducible exact Blk.new _ _ _) | (with_reducible exact Blk.new' (by simp)) | (with_reducible refine Blk.alloc ?_ _) | (with_reducible refine Blk.drew ?_) | (with_reducible refine Blk.drewN ?_ _) | (with_reducible refine Blk.ne ?_ ?_ _) | omega | (simp; omega))), by go_grown⟩
        case measure => simp [intOf]; omega
      · have k0_c0 : wr.cell? ⟨w.heap.size, 0, none⟩ = some (.int .i64 s) := Blk.get k0 rfl
        have k0_f0 : wr.frozen? ⟨w.heap.size, 0, none⟩ = false := Blk.frozen k0 0
        have k0_c1 : wr.cell? ⟨w.heap.size, 1, none⟩ = some (.int .i64 a) := Blk.get k0 rfl
        have k0_f1 : wr.frozen? ⟨w.heap.size, 1, none⟩ = false := Blk.frozen k0 1
        have k0_c2 : wr.cell? ⟨w.heap.size, 2, none⟩ = some (.int .i64 o) := Blk.get k0 rfl
        have k0_f2 : wr.frozen? ⟨w.heap.size, 2, none⟩ = false := Blk.frozen k0 2
        have k0_z : w.heap.size < wr.heap.size := Blk.lt k0
        go_wp2_with fail
        go_call (pitchValid_any _ _ _ _) as e c1 ⟨rfl, hb⟩
        replace k0 : Blk c1 (w.heap.size) 27 #[.int .i64 s, .int .i64 a, .int .i64 o] := Blk.pure (by repeat' (first | (with_reducible assumption) | (with_reducible exact Blk.new _ _ _) | (with_reducible exact Blk.new' (by simp)) | (with_reducible refine Blk.alloc ?_ _) | (with_reducible refine Blk.drew ?_) | (with_reducible refine Blk.drewN ?_ _) | (with_reducible refine Blk.ne ?_ ?_ _) | omega | (simp; omega))) hb
        replace hB := below_pure (w := w) (by go_grown) hb
        clear hb
        clear k0_c0 k0_f0 k0_c1 k0_f1 k0_c2 k0_f2 k0_z
        have k0_c0 : c1.cell? ⟨w.heap.size, 0, none⟩ = some (.int .i64 s) := Blk.get k0 rfl
        have k0_f0 : c1.frozen? ⟨w.heap.size, 0, none⟩ = false := Blk.frozen k0 0
        have k0_c1 : c1.cell? ⟨w.heap.size, 1, none⟩ = some (.int .i64 a) := Blk.get k0 rfl
        have k0_f1 : c1.frozen? ⟨w.heap.size, 1, none⟩ = false := Blk.frozen k0 1
        have k0_c2 : c1.cell? ⟨w.heap.size, 2, none⟩ = some (.int .i64 o) := Blk.get k0 rfl
        have k0_f2 : c1.frozen? ⟨w.heap.size, 2, none⟩ = false := Blk.frozen k0 2
        have k0_z : w.heap.size < c1.heap.size := Blk.lt k0
        go_wp2_with fail
        go_call (HK.out _) as e c2 ⟨rfl, hb⟩
        replace k0 : Blk c2 (w.heap.size) 27 #[.int .i64 s, .int .i64 a, .int .i64 o] := Blk.pure (by repeat' (first | (with_reducible assumption) | (with_reducible exact Blk.new _ _ _) | (with_reducible exact Blk.new' (by simp)) | (with_reducible refine Blk.alloc ?_ _) | (with_reducible refine Blk.drew ?_) | (with_reducible refine Blk.drewN ?_ _) | (with_reducible refine Blk.ne ?_ ?_ _) | omega | (simp; omega))) hb
        replace hB := below_pure (w := w) (by go_grown) hb
        clear hb
        clear k0_c0 k0_f0 k0_c1 k0_f1 k0_c2 k0_f2 k0_z
        have k0_c0 : c2.cell? ⟨w.heap.size, 0, none⟩ = some (.int .i64 s) := Blk.get k0 rfl
        have k0_f0 : c2.frozen? ⟨w.heap.size, 0, none⟩ = false := Blk.frozen k0 0
        have k0_c1 : c2.cell? ⟨w.heap.size, 1, none⟩ = some (.int .i64 a) := Blk.get k0 rfl
        have k0_f1 : c2.frozen? ⟨w.heap.size, 1, none⟩ = false := Blk.frozen k0 1
        have k0_c2 : c2.cell? ⟨w.heap.size, 2, none⟩ = some (.int .i64 o) := Blk.get k0 rfl
        have k0_f2 : c2.frozen? ⟨w.heap.size, 2, none⟩ = false := Blk.frozen k0 2
        have k0_z : w.heap.size < c2.heap.size := Blk.lt k0
        go_wp2
        obtain ⟨e1, e2⟩ := kof_some (o := o) hv hlt HR.out (HH.out.trans (by rw [h1, h2]; rfl))
        go_ret2
        exact ⟨by rw [e1, e2]; rfl, by go_grown⟩
    · obtain rfl : k = 15 := by omega
      obtain ⟨e1, e2⟩ := kof_none (s := s) (a := a) (o := o) (m := m) (fun _ => HR.out)
      have H1 := Lib.hid e1
      have H2 := Lib.hid e2
      clear e1 e2 hlt hk
      go_wp2
      go_ret2
      exact ⟨by rw [H1.out, H2.out]; rfl, hB⟩

set_option maxHeartbeats 2000000 in
theorem specKeyOf_any (s a o : Int) (m : Bool) (w : World) :
    Calls Try.prog 27 #[.agg #[.int .i64 s, .int .i64 a, .int .i64 o], .bool m] w (Gives (.tuple #[.int .i64 (kofV s a o m), .bool (kofB s a o m)]) w) := by
  cases hv : pitchB s a o
  · obtain ⟨e1, e2⟩ := kof_none (s := s) (a := a) (o := o) (m := m) (fun h => by rw [hv] at h; cases h)
    have H1 := Lib.hid e1
    have H2 := Lib.hid e2
    clear e1 e2
    go_enter Try.func27, Try.ntmps27
    go_wp2_with fail
    have k0 : Blk (w.alloc (Obj.cells #[.int .i64 s, .int .i64 a, .int .i64 o] 27)) (w.heap.size) 27 #[.int .i64 s, .int .i64 a, .int .i64 o] := (by repeat' (first | (with_reducible assumption) | (with_reducible exact Blk.new _ _ _) | (with_reducible exact Blk.new' (by simp)) | (with_reducible refine Blk.alloc ?_ _) | (with_reducible refine Blk.drew ?_) | (with_reducible refine Blk.drewN ?_ _) | (with_reducible refine Blk.ne ?_ ?_ _) | omega | (simp; omega)))
    have hB : Below w.heap.size w (w.alloc (Obj.cells #[.int .i64 s, .int .i64 a, .int .i64 o] 27)) := by go_grown
    generalize (w.alloc (Obj.cells #[.int .i64 s, .int .i64 a, .int .i64 o] 27)) = c0 at *
    have k0_c0 : c0.cell? ⟨w.heap.size, 0, none⟩ = some (.int .i64 s) := Blk.get k0 rfl
    have k0_f0 : c0.frozen? ⟨w.heap.size, 0, none⟩ = false := Blk.frozen k0 0
    have k0_c1 : c0.cell? ⟨w.heap.size, 1, none⟩ = some (.int .i64 a) := Blk.get k0 rfl
    have k0_f1 : c0.frozen? ⟨w.heap.size, 1, none⟩ = false := Blk.frozen k0 1
    have k0_c2 : c0.cell? ⟨w.heap.size, 2, none⟩ = some (.int .i64 o) := Blk.get k0 rfl
    have k0_f2 : c0.frozen? ⟨w.heap.size, 2, none⟩ = false := Blk.frozen k0 2
    have k0_z : w.heap.size < c0.heap.size := Blk.lt k0
    refine wp_loop_rounds 1 ?_
    rw [rounds_succ]
    go_wp2_with fail
    go_call (specPitchValid_any _ _ _ _) as e c1 ⟨rfl, hb⟩
    replace k0 : Blk c1 (w.heap.size) 27 #[.int .i64 s, .int .i64 a, .int .i64 o] := Blk.pure (by repeat' (first | (with_reducible assumption) | (with_reducible exact Blk.new _ _ _) | (with_reducible exact Blk.new' (by simp)) | (with_reducible refine Blk.alloc ?_ _) | (with_reducible refine Blk.drew ?_) | (with_reducible refine Blk.drewN ?_ _) | (with_reducible refine Blk.ne ?_ ?_ _) | omega | (simp; omega))) hb
    replace hB := below_pure (w := w) (by go_grown) hb
    clear hb
    clear k0_c0 k0_f0 k0_c1 k0_f1 k0_c2 k0_f2 k0_z
    have k0_c0 : c1.cell? ⟨w.heap.size, 0, none⟩ = some (.int .i64 s) := Blk.get k0 rfl
    have k0_f0 : c1.frozen? ⟨w.heap.size, 0, none⟩ = false := Blk.frozen k0 0
    have k0_c1 : c1.cell? ⟨w.heap.size, 1, none⟩ = some (.int .i64 a) := Blk.get k0 rfl
    have k0_f1 : c1.frozen? ⟨w.heap.size, 1, none⟩ = false := Blk.frozen k0 1
    have k0_c2 : c1.cell? ⟨w.heap.size, 2, none⟩ = some (.int .i64 o) := Blk.get k0 rfl
    have k0_f2 : c1.frozen? ⟨w.heap.size, 2, none⟩ = false := Blk.frozen k0 2
    have k0_z : w.heap.size < c1.heap.size := Blk.lt k0
    go_wp2
    go_ret2
    exact ⟨by rw [H1.out, H2.out]; rfl, hB⟩
  go_enter Try.func27, Try.ntmps27
  go_wp2_with fail
  have k0 : Blk (w.alloc (Obj.cells #[.int .i64 s, .int .i64 a, .int .i64 o] 27)) (w.heap.size) 27 #[.int .i64 s, .int .i64 a, .int .i64 o] := (by repeat' (first | (with_reducible assumption) | (with_reducible exact Blk.new _ _ _) | (with_reducible exact Blk.new' (by simp)) | (with_reducible refine Blk.alloc ?_ _) | (with_reducible refine Blk.drew ?_) | (with_reducible refine Blk.drewN ?_ _) | (with_reducible refine Blk.ne ?_ ?_ _) | omega | (simp; omega)))
  have hB : Below w.heap.size w (w.alloc (Obj.cells #[.int .i64 s, .int .i64 a, .int .i64 o] 27)) := by go_grown
  generalize (w.alloc (Obj.cells #[.int .i64 s, .int .i64 a, .int .i64 o] 27)) = c0 at *
  have k0_c0 : c0.cell? ⟨w.heap.size, 0, none⟩ = some (.int .i64 s) := Blk.get k0 rfl
  have k0_f0 : c0.frozen? ⟨w.heap.size, 0, none⟩ = false := Blk.frozen k0 0
  have k0_c1 : c0.cell? ⟨w.heap.size, 1, none⟩ = some (.int .i64 a) := Blk.get k0 rfl
  have k0_f1 : c0.frozen? ⟨w.heap.size, 1, none⟩ = false := Blk.frozen k0 1
  have k0_c2 : c0.cell? ⟨w.heap.size, 2, none⟩ = some (.int .i64 o) := Blk.get k0 rfl
  have k0_f2 : c0.frozen? ⟨w.heap.size, 2, none⟩ = false := Blk.frozen k0 2
  have k0_z : w.heap.size < c0.heap.size := Blk.lt k0
  go_loopw [6] (fun fv wr => ∃ k : Nat, k ≤ 15 ∧ fv = .int .i64 ((k : Int) - 7) ∧ Hid (KofR s a m k) ∧ Blk wr w.heap.size 27 #[.int .i64 s, .int .i64 a, .int .i64 o] ∧ Below w.heap.size w wr) (fun fv _ => (8 - intOf fv).toNat)
  case atStart => exact ⟨0, by omega, rfl, Lib.hid (fun j hj => absurd hj (by omega)), k0, hB⟩
  case round =>
    clear hB k0_c0 k0_f0 k0_c1 k0_f1 k0_c2 k0_f2 k0_z k0
    obtain ⟨k, hk, rfl, HR, k0, hB⟩ := hrel
    by_cases hlt : k < 15
    · have b0 : -7 ≤ (k : Int) - 7 := by omega
      have b1 : (k : Int) - 7 ≤ 7 := by omega
      have hin : inR ((k : Int) - 7) (-7) 7 = true := by unfold inR; exact decide_eq_true ⟨b0, b1⟩
      have HK : ∀ W, Calls Try.prog 22 #[.int .i64 ((k : Int) - 7), .bool m] W (Gives (.tuple #[.agg #[.int .i64 (ton ((k : Int) - 7) m), .int .i64 (alt ((k : Int) - 7) (ton ((k : Int) - 7) m)), .int .i64 4], .bool true]) W) := fun W => by
        have h := specKeyTonic_any ((k : Int) - 7) m W
        rw [tonS_t hin, tonA_t hin, tonO_t hin, hin] at h
        exact h
      have HK := Lib.hid HK
      have HH := Lib.hid (show hitB s a m k = (ton ((k : Int) - 7) m == s && alt ((k : Int) - 7) (ton ((k : Int) - 7) m) == a) from rfl)
      clear hin
      generalize ton ((k : Int) - 7) m = tt at HK HH
      generalize alt ((k : Int) - 7) tt = aa at HK HH
      cases h1 : tt == s
      · have k0_c0 : wr.cell? ⟨w.heap.size, 0, none⟩ = some (.int .i64 s) := Blk.get k0 rfl
        have k0_f0 : wr.frozen? ⟨w.heap.size, 0, none⟩ = false := Blk.frozen k0 0
        have k0_c1 : wr.cell? ⟨w.heap.size, 1, none⟩ = some (.int .i64 a) := Blk.get k0 rfl
        have k0_f1 : wr.frozen? ⟨w.heap.size, 1, none⟩ = false := Blk.frozen k0 1
        have k0_c2 : wr.cell? ⟨w.heap.size, 2, none⟩ = some (.int .i64 o) := Blk.get k0 rfl
        have k0_f2 : wr.frozen? ⟨w.heap.size, 2, none⟩ = false := Blk.frozen k0 2
        have k0_z : w.heap.size < wr.heap.size := Blk.lt k0
        go_wp2_with fail
        go_call (specPitchValid_any _ _ _ _) as e c1 ⟨rfl, hb⟩
        replace k0 : Blk c1 (w.heap.size) 27 #[.int .i64 s, .int .i64 a, .int .i64 o] := Blk.pure (by repeat' (first | (with_reducible assumption) | (with_reducible exact Blk.new _ _ _) | (with_reducible exact Blk.new' (by simp)) | (with_reducible refine Blk.alloc ?_ _) | (with_reducible refine Blk.drew ?_) | (with_reducible refine Blk.drewN ?_ _) | (with_reducible refine Blk.ne ?_ ?_ _) | omega | (simp; omega))) hb
        replace hB := below_pure (w := w) (by go_grown) hb
        clear hb
        clear k0_c0 k0_f0 k0_c1 k0_f1 k0_c2 k0_f2 k0_z
        have k0_c0 : c1.cell? ⟨w.heap.size, 0, none⟩ = some (.int .i64 s) := Blk.get k0 rfl
        have k0_f0 : c1.frozen? ⟨w.heap.size, 0, none⟩ = false := Blk.frozen k0 0
        have k0_c1 : c1.cell? ⟨w.heap.size, 1, none⟩ = some (.int .i64 a) := Blk.get k0 rfl
        have k0_f1 : c1.frozen? ⟨w.heap.size, 1, none⟩ = false := Blk.frozen k0 1
        have k0_c2 : c1.cell? ⟨w.heap.size, 2, none⟩ = some (.int .i64 o) := Blk.get k0 rfl
        have k0_f2 : c1.frozen? ⟨w.heap.size, 2, none⟩ = false := Blk.frozen k0 2
        have k0_z : w.heap.size < c1.heap.size := Blk.lt k0
        go_wp2_with fail
        go_call (HK.out _) as e c2 ⟨rfl, hb⟩
        replace k0 : Blk c2 (w.heap.size) 27 #[.int .i64 s, .int .i64 a, .int .i64 o] := Blk.pure (by repeat' (first | (with_reducible assumption) | (with_reducible exact Blk.new _ _ _) | (with_reducible exact Blk.new' (by simp)) | (with_reducible refine Blk.alloc ?_ _) | (with_reducible refine Blk.drew ?_) | (with_reducible refine Blk.drewN ?_ _) | (with_reducible refine Blk.ne ?_ ?_ _) | omega | (simp; omega))) hb
        replace hB := below_pure (w := w) (by go_grown) hb
        clear hb
        clear k0_c0 k0_f0 k0_c1 k0_f1 k0_c2 k0_f2 k0_z
        have k0_c0 : c2.cell? ⟨w.heap.size, 0, none⟩ = some (.int .i64 s) := Blk.get k0 rfl
        have k0_f0 : c2.frozen? ⟨w.heap.size, 0, none⟩ = false := Blk.frozen k0 0
        have k0_c1 : c2.cell? ⟨w.heap.size, 1, none⟩ = some (.int .i64 a) := Blk.get k0 rfl
        have k0_f1 : c2.frozen? ⟨w.heap.size, 1, none⟩ = false := Blk.frozen k0 1
        have k0_c2 : c2.cell? ⟨w.heap.size, 2, none⟩ = some (.int .i64 o) := Blk.get k0 rfl
        have k0_f2 : c2.frozen? ⟨w.heap.size, 2, none⟩ = false := Blk.frozen k0 2
        have k0_z : w.heap.size < c2.heap.size := Blk.lt k0
        go_wp2
        have HS := Lib.hid (kofR_succ HR.out (HH.out.trans (by rw [h1]; rfl)))
        go_roundw
        case rel => exact ⟨k + 1, by omega, by go_num, HS, (by repeat' (first | (with_reducible assumption) | (with_reducible exact Blk.new _ _ _) | (with_reducible exact Blk.new' (by simp)) | (with_reducible refine Blk.alloc ?_ _) | (with_reducible refine Blk.drew ?_) | (with_reducible refine Blk.drewN ?_ _) | (with_reducible refine Blk.ne ?_ ?_ _) | omega | (simp; omega))), by go_grown⟩
        case measure => simp [intOf]; omega
      cases h2 : aa == a
      · have k0_c0 : wr.cell? ⟨w.heap.size, 0, none⟩ = some (.int .i64 s) := Blk.get k0 rfl
        have k0_f0 : wr.frozen? ⟨w.heap.size, 0, none⟩ = false := Blk.frozen k0 0
        have k0_c1 : wr.cell? ⟨w.heap.size, 1, none⟩ = some (.int .i64 a) := Blk.get k0 rfl
        have k0_f1 : wr.frozen? ⟨w.heap.size, 1, none⟩ = false := Blk.frozen k0 1
        have k0_c2 : wr.cell? ⟨w.heap.size, 2, none⟩ = some (.int .i64 o) := Blk.get k0 rfl
        have k0_f2 : wr.frozen? ⟨w.heap.size, 2, none⟩ = false := Blk.frozen k0 2
        have k0_z : w.heap.size < wr.heap.size := Blk.lt k0
        go_wp2_with fail
        go_call (specPitchValid_any _ _ _ _) as e c1 ⟨rfl, hb⟩
        replace k0 : Blk c1 (w.heap.size) 27 #[.int .i64 s, .int .i64 a, .int .i64 o] := Blk.pure (by repeat' (first | (with_reducible assumption) | (with_reducible exact Blk.new _ _ _) | (with_reducible exact Blk.new' (by simp)) | (with_reducible refine Blk.alloc ?_ _) | (with_reducible refine Blk.drew ?_) | (with_reducible refine Blk.drewN ?_ _) | (with_reducible refine Blk.ne ?_ ?_ _) | omega | (simp; omega))) hb
        replace hB := below_pure (w := w) (by go_grown) hb
        clear hb
        clear k0_c0 k0_f0 k0_c1 k0_f1 k0_c2 k0_f2 k0_z
        have k0_c0 : c1.cell? ⟨w.heap.size, 0, none⟩ = some (.int .i64 s) := Blk.get k0 rfl
        have k0_f0 : c1.frozen? ⟨w.heap.size, 0, none⟩ = false := Blk.frozen k0 0
        have k0_c1 : c1.cell? ⟨w.heap.size, 1, none⟩ = some (.int .i64 a) := Blk.get k0 rfl
        have k0_f1 : c1.frozen? ⟨w.heap.size, 1, none⟩ = false := Blk.frozen k0 1
        have k0_c2 : c1.cell? ⟨w.heap.size, 2, none⟩ = some (.int .i64 o) := Blk.get k0 rfl
        have k0_f2 : c1.frozen? ⟨w.heap.size, 2, none⟩ = false := Blk.frozen k0 2
        have k0_z : w.heap.size < c1.heap.size := Blk.lt k0
        go_wp2_with fail
        go_call (HK.out _) as e c2 ⟨rfl, hb⟩
        replace k0 : Blk c2 (w.heap.size) 27 #[.int .i64 s, .int .i64 a, .int .i64 o] := Blk.pure (by repeat' (first | (with_reducible assumption) | (with_reducible exact Blk.new _ _ _) | (with_reducible exact Blk.new' (by simp)) | (with_reducible refine Blk.alloc ?_ _) | (with_reducible refine Blk.drew ?_) | (with_reducible refine Blk.drewN ?_ _) | (with_reducible refine Blk.ne ?_ ?_ _) | omega | (simp; omega))) hb
        replace hB := below_pure (w := w) (by go_grown) hb
        clear hb
        clear k0_c0 k0_f0 k0_c1 k0_f1 k0_c2 k0_f2 k0_z
        have k0_c0 : c2.cell? ⟨w.heap.size, 0, none⟩ = some (.int .i64 s) := Blk.get k0 rfl
        have k0_f0 : c2.frozen? ⟨w.heap.size, 0, none⟩ = false := Blk.frozen k0 0
        have k0_c1 : c2.cell? ⟨w.heap.size, 1, none⟩ = some (.int .i64 a) := Blk.get k0 rfl
        have k0_f1 : c2.frozen? ⟨w.heap.size, 1, none⟩ = false := Blk.frozen k0 1
        have k0_c2 : c2.cell? ⟨w.heap.size, 2, none⟩ = some (.int .i64 o) := Blk.get k0 rfl
        have k0_f2 : c2.frozen? ⟨w.heap.size, 2, none⟩ = false := Blk.frozen k0 2
        have k0_z : w.heap.size < c2.heap.size := Blk.lt k0
        go_wp2
        have HS := Lib.hid (kofR_succ HR.out (HH.out.trans (by rw [h1, h2]; rfl)))
        go_roundw
        case rel => exact ⟨k + 1, by omega, by go_num, HS, (by repeat' (first | (with_reducible assumption) | (with_reducible exact Blk.new _ _ _) | (with_reducible exact Blk.new' (by simp)) | (with_reducible refine Blk.alloc ?_ _) | (with_reducible refine Blk.drew ?_) | (with_reducible refine Blk.drewN ?_ _) | (with_reducible refine Blk.ne ?_ ?_ _) | omega | (simp; omega))), by go_grown⟩
        case measure => simp [intOf]; omega
      · have k0_c0 : wr.cell? ⟨w.heap.size, 0, none⟩ = some (.int .i64 s) := Blk.get k0 rfl
        have k0_f0 : wr.frozen? ⟨w.heap.size, 0, none⟩ = false := Blk.frozen k0 0
        have k0_c1 : wr.cell? ⟨w.heap.size, 1, none⟩ = some (.int .i64 a) := Blk.get k0 rfl
        have k0_f1 : wr.frozen? ⟨w.heap.size, 1, none⟩ = false := Blk.frozen k0 1
        have k0_c2 : wr.cell? ⟨w.heap.size, 2, none⟩ = some (.int .i64 o) := Blk.get k0 rfl
        have k0_f2 : wr.frozen? ⟨w.heap.size, 2, none⟩ = false := Blk.frozen k0 2
        have k0_z : w.heap.size < wr.heap.size := Blk.lt k0
        go_wp2_with fail
        go_call (specPitchValid_any _ _ _ _) as e c1 ⟨rfl, hb⟩
        replace k0 : Blk c1 (w.heap.size) 27 #[.int .i64 s, .int .i64 a, .int .i64 o] := Blk.pure (by repeat' (first | (with_reducible assumption) | (with_reducible exact Blk.new _ _ _) | (with_reducible exact Blk.new' (by simp)) | (with_reducible refine Blk.alloc ?_ _) | (with_reducible refine Blk.drew ?_) | (with_reducible refine Blk.drewN ?_ _) | (with_reducible refine Blk.ne ?_ ?_ _) | omega | (simp; omega))) hb
        replace hB := below_pure (w := w) (by go_grown) hb
        clear hb
        clear k0_c0 k0_f0 k0_c1 k0_f1 k0_c2 k0_f2 k0_z
        have k0_c0 : c1.cell? ⟨w.heap.size, 0, none⟩ = some (.int .i64 s) := Blk.get k0 rfl
        have k0_f0 : c1.frozen? ⟨w.heap.size, 0, none⟩ = false := Blk.frozen k0 0
        have k0_c1 : c1.cell? ⟨w.heap.size, 1, none⟩ = some (.int .i64 a) := Blk.get k0 rfl
        have k0_f1 : c1.frozen? ⟨w.heap.size, 1, none⟩ = false := Blk.frozen k0 1
        have k0_c2 : c1.cell? ⟨w.heap.size, 2, none⟩ = some (.int .i64 o) := Blk.get k0 rfl
        have k0_f2 : c1.frozen? ⟨w.heap.size, 2, none⟩ = false := Blk.frozen k0 2
        have k0_z : w.heap.size < c1.heap.size := Blk.lt k0
        go_wp2_with fail
        go_call (HK.out _) as e c2 ⟨rfl, hb⟩
        replace k0 : Blk c2 (w.heap.size) 27 #[.int .i64 s, .int .i64 a, .int .i64 o] := Blk.pure (by repeat' (first | (with_reducible assumption) | (with_reducible exact Blk.new _ _ _) | (with_reducible exact Blk.new' (by simp)) | (with_reducible refine Blk.alloc ?_ _) | (with_reducible refine Blk.drew ?_) | (with_reducible refine Blk.drewN ?_ _) | (with_reducible refine Blk.ne ?_ ?_ _) | omega | (simp; omega))) hb
        replace hB := below_pure (w := w) (by go_grown) hb
        clear hb
        clear k0_c0 k0_f0 k0_c1 k0_f1 k0_c2 k0_f2 k0_z
        have k0_c0 : c2.cell? ⟨w.heap.size, 0, none⟩ = some (.int .i64 s) := Blk.get k0 rfl
        have k0_f0 : c2.frozen? ⟨w.heap.size, 0, none⟩ = false := Blk.frozen k0 0
        have k0_c1 : c2.cell? ⟨w.heap.size, 1, none⟩ = some (.int .i64 a) := Blk.get k0 rfl
        have k0_f1 : c2.frozen? ⟨w.heap.size, 1, none⟩ = false := Blk.frozen k0 1
        have k0_c2 : c2.cell? ⟨w.heap.size, 2, none⟩ = some (.int .i64 o) := Blk.get k0 rfl
        have k0_f2 : c2.frozen? ⟨w.heap.size, 2, none⟩ = false := Blk.frozen k0 2
        have k0_z : w.heap.size < c2.heap.size := Blk.lt k0
        go_wp2
        obtain ⟨e1, e2⟩ := kof_some (o := o) hv hlt HR.out (HH.out.trans (by rw [h1, h2]; rfl))
        go_ret2
        exact ⟨by rw [e1, e2]; rfl, by go_grown⟩
    · obtain rfl : k = 15 := by omega
      obtain ⟨e1, e2⟩ := kof_none (s := s) (a := a) (o := o) (m := m) (fun _ => HR.out)
      have H1 := Lib.hid e1
      have H2 := Lib.hid e2
      clear e1 e2 hlt hk
      go_wp2
      go_ret2
      exact ⟨by rw [H1.out, H2.out]; rfl, hB⟩

end Go.Proofs.Ytojkbeffhjcaiaa

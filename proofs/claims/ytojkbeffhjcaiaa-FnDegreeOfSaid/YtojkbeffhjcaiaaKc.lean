/- The walks of the functions on pitches in keys. No condition. -/
import Derived.Test.YtojkbeffhjcaiaaKb
namespace Go.Proofs.Ytojkbeffhjcaiaa
open Go.RowKit

def inKeyB (f s a o : Int) : Bool := inR f (-7) 7 && pitchB s a o && (a == alt f s)
def degB (f s a o : Int) : Bool := inR f (-7) 7 && pitchB s a o
def degV (f : Int) (m : Bool) (s a o : Int) : Int := if degB f s a o then (s - ton f m) % 7 else -1
def degD (f s a o : Int) : Int := if degB f s a o then a - alt f s else 0
theorem degV_t {f : Int} {m : Bool} {s a o : Int} (h : degB f s a o = true) : degV f m s a o = (s - ton f m) % 7 := by unfold degV; rw [if_pos h]
theorem degV_f {f : Int} {m : Bool} {s a o : Int} (h : degB f s a o = false) : degV f m s a o = -1 := by unfold degV; rw [h]; rfl
theorem degD_t {f s a o : Int} (h : degB f s a o = true) : degD f s a o = a - alt f s := by unfold degD; rw [if_pos h]
theorem degD_f {f s a o : Int} (h : degB f s a o = false) : degD f s a o = 0 := by unfold degD; rw [h]; rfl

set_option maxHeartbeats 2000000 in
theorem inKey_any (f s a o : Int) (w : World) :
    Calls Try.prog 21 #[.int .i64 f, .agg #[.int .i64 s, .int .i64 a, .int .i64 o]] w (Gives (.bool (inKeyB f s a o)) w) := by
  cases h1 : inR f (-7) 7
  · have HR := Lib.hid (show inKeyB f s a o = false by unfold inKeyB; rw [h1]; rfl)
    go_enter Try.func21, Try.ntmps21
    go_wp2_with fail
    go_quiet ((go_at_call 50; exact quiet_left (isKey_any _ _)))
    go_wp2
    go_ret
    exact ⟨by rw [HR.out]; rfl, below_drewN (by go_grown) _⟩
  cases h2 : pitchB s a o
  · have HR := Lib.hid (show inKeyB f s a o = false by unfold inKeyB; rw [h1, h2]; rfl)
    have HP := Lib.hid (show ∀ W, Calls Try.prog 52 #[.agg #[.int .i64 s, .int .i64 a, .int .i64 o]] W (Gives (.bool false) W) from fun W => by have h := pitchValid_any s a o W; rw [h2] at h; exact h)
    have HG := Lib.hid (show ∀ W, Calls Try.prog 50 #[.int .i64 f] W (fun e w' => e = .returned (.bool true) ∧ W = w') from fun W => by have h := isKey_any f W; rw [h1] at h; exact h)
    go_enter Try.func21, Try.ntmps21
    go_wp2_with fail
    have k0 : Blk (w.alloc (Obj.cells #[.int .i64 s, .int .i64 a, .int .i64 o] 27)) (w.heap.size) 27 #[.int .i64 s, .int .i64 a, .int .i64 o] := (by repeat' (first | (with_reducible assumption) | (with_reducible exact Blk.new _ _ _) | (with_reducible exact Blk.new' (by simp)) | (with_reducible refine Blk.alloc ?_ _) | (with_reducible refine Blk.drew ?_) | (with_reducible refine Blk.drewN ?_ _) | (with_reducible refine Blk.ne ?_ ?_ _) | omega | (simp; omega)))
    have hB : Below w.heap.size w (w.alloc (Obj.cells #[.int .i64 s, .int .i64 a, .int .i64 o] 27)) := by go_grown
    generalize (w.alloc (Obj.cells #[.int .i64 s, .int .i64 a, .int .i64 o] 27)) = c0 at *
    have k0_c0 : c0.cell? ⟨w.heap.size, 0, none⟩ = some (.int .i64 s) := Blk.get k0 rfl
    have k0_f0 : c0.frozen? ⟨w.heap.size, 0, none⟩ = false := Blk.frozen k0 0
    have k0_c1 : c0.cell? ⟨w.heap.size, 1, none⟩ = some (.int .i64 a) := Blk.get k0 rfl
    have k0_f1 : c0.frozen? ⟨w.heap.size, 1, none⟩ = false := Blk.frozen k0 1
    have k0_c2 : c0.cell? ⟨w.heap.size, 2, none⟩ = some (.int .i64 o) := Blk.get k0 rfl
    have k0_f2 : c0.frozen? ⟨w.heap.size, 2, none⟩ = false := Blk.frozen k0 2
    have k0_z : w.heap.size < c0.heap.size := Blk.lt k0
    first | go_region_with (first | (go_at_call 50; refine (HG.out _).mono ?_; rintro e w2 ⟨rfl, rfl⟩) | (go_at_call 52; refine (HP.out _).mono ?_; rintro e w2 ⟨rfl, hbc⟩)) | fail
    all_goals
      go_wp2
      go_ret
      exact ⟨by rw [HR.out]; rfl, below_pure hB.drew hbc⟩
  obtain ⟨b0, b1⟩ := inR_t h1
  obtain ⟨b2, b3, -, -, -, -⟩ := pitchB_t h2
  have HR := Lib.hid (show inKeyB f s a o = (a == alt f s) by unfold inKeyB; rw [h1, h2]; rfl)
  have HK : ∀ W, Calls Try.prog 18 #[.int .i64 f, .int .i64 s] W (Gives (.int .i64 (alt f s)) W) := fun W => by
    have h := keyAlter_any f s W
    rw [altV_t (keyB_mk ⟨b0, b1, b2, b3⟩)] at h
    exact h
  have HK := Lib.hid HK
  go_enter Try.func21, Try.ntmps21
  go_wp2_with fail
  have k0 : Blk (w.alloc (Obj.cells #[.int .i64 s, .int .i64 a, .int .i64 o] 27)) (w.heap.size) 27 #[.int .i64 s, .int .i64 a, .int .i64 o] := (by repeat' (first | (with_reducible assumption) | (with_reducible exact Blk.new _ _ _) | (with_reducible exact Blk.new' (by simp)) | (with_reducible refine Blk.alloc ?_ _) | (with_reducible refine Blk.drew ?_) | (with_reducible refine Blk.drewN ?_ _) | (with_reducible refine Blk.ne ?_ ?_ _) | omega | (simp; omega)))
  have hB : Below w.heap.size w (w.alloc (Obj.cells #[.int .i64 s, .int .i64 a, .int .i64 o] 27)) := by go_grown
  generalize (w.alloc (Obj.cells #[.int .i64 s, .int .i64 a, .int .i64 o] 27)) = c0 at *
  have k0_c0 : c0.cell? ⟨w.heap.size, 0, none⟩ = some (.int .i64 s) := Blk.get k0 rfl
  have k0_f0 : c0.frozen? ⟨w.heap.size, 0, none⟩ = false := Blk.frozen k0 0
  have k0_c1 : c0.cell? ⟨w.heap.size, 1, none⟩ = some (.int .i64 a) := Blk.get k0 rfl
  have k0_f1 : c0.frozen? ⟨w.heap.size, 1, none⟩ = false := Blk.frozen k0 1
  have k0_c2 : c0.cell? ⟨w.heap.size, 2, none⟩ = some (.int .i64 o) := Blk.get k0 rfl
  have k0_f2 : c0.frozen? ⟨w.heap.size, 2, none⟩ = false := Blk.frozen k0 2
  have k0_z : w.heap.size < c0.heap.size := Blk.lt k0
  have HSd := Lib.hid (show Blk c0.drew (w.heap.size) 27 #[.int .i64 s, .int .i64 a, .int .i64 o] ∧ c0.drew.cell? ⟨w.heap.size, 0, none⟩ = some (.int .i64 s) ∧ c0.drew.cell? ⟨w.heap.size, 1, none⟩ = some (.int .i64 a) ∧ c0.drew.cell? ⟨w.heap.size, 2, none⟩ = some (.int .i64 o) ∧ Below w.heap.size w c0.drew from ⟨k0, k0_c0, k0_c1, k0_c2, hB.drew⟩)
  have hz : w.heap.size < c0.heap.size := k0_z
  clear hB k0_c0 k0_f0 k0_c1 k0_f1 k0_c2 k0_f2 k0_z k0
  go_region_held3 (fun w' => Blk w' (w.heap.size) 27 #[.int .i64 s, .int .i64 a, .int .i64 o] ∧ w'.cell? ⟨w.heap.size, 0, none⟩ = some (.int .i64 s) ∧ w'.cell? ⟨w.heap.size, 1, none⟩ = some (.int .i64 a) ∧ w'.cell? ⟨w.heap.size, 2, none⟩ = some (.int .i64 o) ∧ Below w.heap.size w w')
    (first | exact HSd.out | (go_split_ands; go_split_ands; (repeat' apply And.intro) <;> first | (with_reducible assumption) | (with_reducible exact Blk.pure (by assumption) hbc) | (with_reducible exact Blk.get (Blk.pure (by assumption) hbc) rfl) | (with_reducible exact below_pure (by assumption) hbc) | (with_reducible exact Blk.alloc (by assumption) _) | (with_reducible exact Blk.get (Blk.alloc (by assumption) _) rfl) | (with_reducible exact Below.alloc (by assumption) (Below.size (by assumption)) _) | (with_reducible exact Blk.drew (Blk.alloc (Blk.undrew (by assumption)) _)) | (with_reducible exact Blk.get (Blk.drew (Blk.alloc (Blk.undrew (by assumption)) _)) rfl) | (with_reducible exact Below.drew (Below.alloc (below_undrew (by assumption)) (Below.size (below_undrew (by assumption))) _)) | (with_reducible exact Blk.swap (by assumption) (by omega)) | (with_reducible exact Blk.get (Blk.swap (by assumption) (by omega)) rfl) | (with_reducible exact below_swap (by assumption) (by omega))))
    (first | ((go_at_call 50; refine (same_gives (isKey_any _ _)).mono ?_; rintro e w2 ⟨rfl, hbc⟩); have hz : w.heap.size < w2.heap.size := (by (go_split_ands; refine Nat.lt_of_lt_of_le ?_ hbc.size; exact Blk.lt (by assumption)))) | ((go_at_call 52; refine (pitchValid_any _ _ _ _).mono ?_; rintro e w2 ⟨rfl, hbc⟩); have hz : w.heap.size < w2.heap.size := (by (go_split_ands; refine Nat.lt_of_lt_of_le ?_ hbc.size; exact Blk.lt (by assumption)))) | ((go_at_call 18; refine (HK.out _).mono ?_; rintro e w2 ⟨rfl, hbc⟩); have hz : w.heap.size < w2.heap.size := (by (go_split_ands; refine Nat.lt_of_lt_of_le ?_ hbc.size; exact Blk.lt (by assumption)))))
  all_goals
    clear HSd
    go_split_ands
    go_wp2
    go_ret
    exact ⟨by rw [HR.out]; rfl, by assumption⟩

set_option maxHeartbeats 2000000 in
theorem specInKey_any (f s a o : Int) (w : World) :
    Calls Try.prog 19 #[.int .i64 f, .agg #[.int .i64 s, .int .i64 a, .int .i64 o]] w (Gives (.bool (inKeyB f s a o)) w) := by
  cases h1 : inR f (-7) 7
  · have HR := Lib.hid (show inKeyB f s a o = false by unfold inKeyB; rw [h1]; rfl)
    go_enter Try.func19, Try.ntmps19
    go_wp2_with fail
    go_quiet ((go_at_call 48; exact quiet_left (l1In_any _ _ _ _)))
    go_wp2
    go_ret
    exact ⟨by rw [HR.out]; rfl, below_drewN (by go_grown) _⟩
  cases h2 : pitchB s a o
  · have HR := Lib.hid (show inKeyB f s a o = false by unfold inKeyB; rw [h1, h2]; rfl)
    have HP := Lib.hid (show ∀ W, Calls Try.prog 37 #[.agg #[.int .i64 s, .int .i64 a, .int .i64 o]] W (Gives (.bool false) W) from fun W => by have h := specPitchValid_any s a o W; rw [h2] at h; exact h)
    have HG := Lib.hid (show ∀ W, Calls Try.prog 48 #[.int .i64 f, .int .i64 (-7), .int .i64 7] W (fun e w' => e = .returned (.bool true) ∧ W = w') from fun W => by have h := l1In_any f (-7) 7 W; rw [h1] at h; exact h)
    go_enter Try.func19, Try.ntmps19
    go_wp2_with fail
    have k0 : Blk (w.alloc (Obj.cells #[.int .i64 s, .int .i64 a, .int .i64 o] 27)) (w.heap.size) 27 #[.int .i64 s, .int .i64 a, .int .i64 o] := (by repeat' (first | (with_reducible assumption) | (with_reducible exact Blk.new _ _ _) | (with_reducible exact Blk.new' (by simp)) | (with_reducible refine Blk.alloc ?_ _) | (with_reducible refine Blk.drew ?_) | (with_reducible refine Blk.drewN ?_ _) | (with_reducible refine Blk.ne ?_ ?_ _) | omega | (simp; omega)))
    have hB : Below w.heap.size w (w.alloc (Obj.cells #[.int .i64 s, .int .i64 a, .int .i64 o] 27)) := by go_grown
    generalize (w.alloc (Obj.cells #[.int .i64 s, .int .i64 a, .int .i64 o] 27)) = c0 at *
    have k0_c0 : c0.cell? ⟨w.heap.size, 0, none⟩ = some (.int .i64 s) := Blk.get k0 rfl
    have k0_f0 : c0.frozen? ⟨w.heap.size, 0, none⟩ = false := Blk.frozen k0 0
    have k0_c1 : c0.cell? ⟨w.heap.size, 1, none⟩ = some (.int .i64 a) := Blk.get k0 rfl
    have k0_f1 : c0.frozen? ⟨w.heap.size, 1, none⟩ = false := Blk.frozen k0 1
    have k0_c2 : c0.cell? ⟨w.heap.size, 2, none⟩ = some (.int .i64 o) := Blk.get k0 rfl
    have k0_f2 : c0.frozen? ⟨w.heap.size, 2, none⟩ = false := Blk.frozen k0 2
    have k0_z : w.heap.size < c0.heap.size := Blk.lt k0
    first | go_region_with (first | (go_at_call 48; refine (HG.out _).mono ?_; rintro e w2 ⟨rfl, rfl⟩) | (go_at_call 37; refine (HP.out _).mono ?_; rintro e w2 ⟨rfl, hbc⟩)) | fail
    all_goals
      go_wp2
      go_ret
      exact ⟨by rw [HR.out]; rfl, below_pure hB.drew hbc⟩
  obtain ⟨b0, b1⟩ := inR_t h1
  obtain ⟨b2, b3, -, -, -, -⟩ := pitchB_t h2
  have HR := Lib.hid (show inKeyB f s a o = (a == alt f s) by unfold inKeyB; rw [h1, h2]; rfl)
  go_enter Try.func19, Try.ntmps19
  go_wp2_with fail
  have k0 : Blk (w.alloc (Obj.cells #[.int .i64 s, .int .i64 a, .int .i64 o] 27)) (w.heap.size) 27 #[.int .i64 s, .int .i64 a, .int .i64 o] := (by repeat' (first | (with_reducible assumption) | (with_reducible exact Blk.new _ _ _) | (with_reducible exact Blk.new' (by simp)) | (with_reducible refine Blk.alloc ?_ _) | (with_reducible refine Blk.drew ?_) | (with_reducible refine Blk.drewN ?_ _) | (with_reducible refine Blk.ne ?_ ?_ _) | omega | (simp; omega)))
  have hB : Below w.heap.size w (w.alloc (Obj.cells #[.int .i64 s, .int .i64 a, .int .i64 o] 27)) := by go_grown
  generalize (w.alloc (Obj.cells #[.int .i64 s, .int .i64 a, .int .i64 o] 27)) = c0 at *
  have k0_c0 : c0.cell? ⟨w.heap.size, 0, none⟩ = some (.int .i64 s) := Blk.get k0 rfl
  have k0_f0 : c0.frozen? ⟨w.heap.size, 0, none⟩ = false := Blk.frozen k0 0
  have k0_c1 : c0.cell? ⟨w.heap.size, 1, none⟩ = some (.int .i64 a) := Blk.get k0 rfl
  have k0_f1 : c0.frozen? ⟨w.heap.size, 1, none⟩ = false := Blk.frozen k0 1
  have k0_c2 : c0.cell? ⟨w.heap.size, 2, none⟩ = some (.int .i64 o) := Blk.get k0 rfl
  have k0_f2 : c0.frozen? ⟨w.heap.size, 2, none⟩ = false := Blk.frozen k0 2
  have k0_z : w.heap.size < c0.heap.size := Blk.lt k0
  have HSd := Lib.hid (show Blk c0.drew (w.heap.size) 27 #[.int .i64 s, .int .i64 a, .int .i64 o] ∧ c0.drew.cell? ⟨w.heap.size, 0, none⟩ = some (.int .i64 s) ∧ c0.drew.cell? ⟨w.heap.size, 1, none⟩ = some (.int .i64 a) ∧ c0.drew.cell? ⟨w.heap.size, 2, none⟩ = some (.int .i64 o) ∧ Below w.heap.size w c0.drew from ⟨k0, k0_c0, k0_c1, k0_c2, hB.drew⟩)
  have hz : w.heap.size < c0.heap.size := k0_z
  clear hB k0_c0 k0_f0 k0_c1 k0_f1 k0_c2 k0_f2 k0_z k0
  go_region_held3 (fun w' => Blk w' (w.heap.size) 27 #[.int .i64 s, .int .i64 a, .int .i64 o] ∧ w'.cell? ⟨w.heap.size, 0, none⟩ = some (.int .i64 s) ∧ w'.cell? ⟨w.heap.size, 1, none⟩ = some (.int .i64 a) ∧ w'.cell? ⟨w.heap.size, 2, none⟩ = some (.int .i64 o) ∧ Below w.heap.size w w')
    (first | exact HSd.out | (go_split_ands; go_split_ands; (repeat' apply And.intro) <;> first | (with_reducible assumption) | (with_reducible exact Blk.pure (by assumption) hbc) | (with_reducible exact Blk.get (Blk.pure (by assumption) hbc) rfl) | (with_reducible exact below_pure (by assumption) hbc) | (with_reducible exact Blk.alloc (by assumption) _) | (with_reducible exact Blk.get (Blk.alloc (by assumption) _) rfl) | (with_reducible exact Below.alloc (by assumption) (Below.size (by assumption)) _) | (with_reducible exact Blk.drew (Blk.alloc (Blk.undrew (by assumption)) _)) | (with_reducible exact Blk.get (Blk.drew (Blk.alloc (Blk.undrew (by assumption)) _)) rfl) | (with_reducible exact Below.drew (Below.alloc (below_undrew (by assumption)) (Below.size (below_undrew (by assumption))) _)) | (with_reducible exact Blk.swap (by assumption) (by omega)) | (with_reducible exact Blk.get (Blk.swap (by assumption) (by omega)) rfl) | (with_reducible exact below_swap (by assumption) (by omega))))
    (first | ((go_at_call 48; refine (same_gives (l1In_any _ _ _ _)).mono ?_; rintro e w2 ⟨rfl, hbc⟩); have hz : w.heap.size < w2.heap.size := (by (go_split_ands; refine Nat.lt_of_lt_of_le ?_ hbc.size; exact Blk.lt (by assumption)))) | ((go_at_call 37; refine (specPitchValid_any _ _ _ _).mono ?_; rintro e w2 ⟨rfl, hbc⟩); have hz : w.heap.size < w2.heap.size := (by (go_split_ands; refine Nat.lt_of_lt_of_le ?_ hbc.size; exact Blk.lt (by assumption)))) | ((go_at_call 49; refine (l3Alter_any _ _ b0 b1 b2 b3 _).mono ?_; rintro e w2 ⟨rfl, hbc⟩); have hz : w.heap.size < w2.heap.size := (by (go_split_ands; refine Nat.lt_of_lt_of_le ?_ hbc.size; exact Blk.lt (by assumption)))))
  all_goals
    clear HSd
    go_split_ands
    go_wp2
    go_ret
    exact ⟨by rw [HR.out]; rfl, by assumption⟩

set_option maxHeartbeats 2000000 in
theorem degreeOf_any (f : Int) (m : Bool) (s a o : Int) (w : World) :
    Calls Try.prog 26 #[.int .i64 f, .bool m, .agg #[.int .i64 s, .int .i64 a, .int .i64 o]] w (Gives (.tuple #[.int .i64 (degV f m s a o), .int .i64 (degD f s a o)]) w) := by
  cases h1 : inR f (-7) 7
  · have hR : degB f s a o = false := by unfold degB; rw [h1]; rfl
    rw [degV_f hR, degD_f hR]
    clear hR
    go_enter Try.func26, Try.ntmps26
    go_wp2_with (go_call (isKey_any _ _) as e w1 ⟨rfl, rfl⟩)
    go_ret2
    exact ⟨rfl, by go_grown⟩
  cases h2 : pitchB s a o
  · have hR : degB f s a o = false := by unfold degB; rw [h1, h2]; rfl
    rw [degV_f hR, degD_f hR]
    clear hR
    go_enter Try.func26, Try.ntmps26
    go_wp2_with fail
    have k0 : Blk (w.alloc (Obj.cells #[.int .i64 s, .int .i64 a, .int .i64 o] 27)) (w.heap.size) 27 #[.int .i64 s, .int .i64 a, .int .i64 o] := (by repeat' (first | (with_reducible assumption) | (with_reducible exact Blk.new _ _ _) | (with_reducible exact Blk.new' (by simp)) | (with_reducible refine Blk.alloc ?_ _) | (with_reducible refine Blk.drew ?_) | (with_reducible refine Blk.drewN ?_ _) | (with_reducible refine Blk.ne ?_ ?_ _) | omega | (simp; omega)))
    have hB : Below w.heap.size w (w.alloc (Obj.cells #[.int .i64 s, .int .i64 a, .int .i64 o] 27)) := by go_grown
    generalize (w.alloc (Obj.cells #[.int .i64 s, .int .i64 a, .int .i64 o] 27)) = c0 at *
    have k0_c0 : c0.cell? ⟨w.heap.size, 0, none⟩ = some (.int .i64 s) := Blk.get k0 rfl
    have k0_f0 : c0.frozen? ⟨w.heap.size, 0, none⟩ = false := Blk.frozen k0 0
    have k0_c1 : c0.cell? ⟨w.heap.size, 1, none⟩ = some (.int .i64 a) := Blk.get k0 rfl
    have k0_f1 : c0.frozen? ⟨w.heap.size, 1, none⟩ = false := Blk.frozen k0 1
    have k0_c2 : c0.cell? ⟨w.heap.size, 2, none⟩ = some (.int .i64 o) := Blk.get k0 rfl
    have k0_f2 : c0.frozen? ⟨w.heap.size, 2, none⟩ = false := Blk.frozen k0 2
    have k0_z : w.heap.size < c0.heap.size := Blk.lt k0
    go_call (isKey_any _ _) as e w1 ⟨rfl, rfl⟩
    go_wp2_with fail
    go_call (pitchValid_any _ _ _ _) as e c1 ⟨rfl, hb⟩
    replace k0 : Blk c1 (w.heap.size) 27 #[.int .i64 s, .int .i64 a, .int .i64 o] := Blk.pure (by repeat' (first | (with_reducible assumption) | (with_reducible exact Blk.new _ _ _) | (with_reducible exact Blk.new' (by simp)) | (with_reducible refine Blk.alloc ?_ _) | (with_reducible refine Blk.drew ?_) | (with_reducible refine Blk.drewN ?_ _) | (with_reducible refine Blk.ne ?_ ?_ _) | omega | (simp; omega))) hb
    replace hB := below_pure (w := w) (by go_grown) hb
    clear hb
    clear k0_c0 k0_f0 k0_c1 k0_f1 k0_c2 k0_f2 k0_z
    have k0_c0 : c1.cell? ⟨w.heap.size, 0, none⟩ = some (.int .i64 s) := Blk.get k0 rfl
    have k0_f0 : c1.frozen? ⟨w.heap.size, 0, none⟩ = false := Blk.frozen k0 0
    have k0_c1 : c1.cell? ⟨w.heap.size, 1, none⟩ = some (.int .i64 a) := Blk.get k0 rfl
    have k0_f1 : c1.frozen? ⟨w.heap.size, 1, none⟩ = false := Blk.frozen k0 1
    have k0_c2 : c1.cell? ⟨w.heap.size, 2, none⟩ = some (.int .i64 o) := Blk.get k0 rfl
    have k0_f2 : c1.frozen? ⟨w.heap.size, 2, none⟩ = false := Blk.frozen k0 2
    have k0_z : w.heap.size < c1.heap.size := Blk.lt k0
    go_wp2
    go_ret2
    exact ⟨rfl, hB⟩
  have hR : degB f s a o = true := by unfold degB; rw [h1, h2]; rfl
  rw [degV_t hR, degD_t hR]
  clear hR
  obtain ⟨b0, b1⟩ := inR_t h1
  obtain ⟨b2, b3, b4, b5, -, -⟩ := pitchB_t h2
  obtain ⟨t0, t1⟩ := ton_bd f m
  obtain ⟨a0, a1⟩ := alt_bd f s
  have q3 : IntKind.i64.wrap (a - alt f s) = a - alt f s := IntWalk.i64_in _ (by omega)
  have Q3 := Lib.hid q3
  clear q3
  have HK : ∀ W, Calls Try.prog 18 #[.int .i64 f, .int .i64 s] W (Gives (.int .i64 (alt f s)) W) := fun W => by
    have h := keyAlter_any f s W
    rw [altV_t (keyB_mk ⟨b0, b1, b2, b3⟩)] at h
    exact h
  have HK := Lib.hid HK
  have q1 : IntKind.i64.wrap (s - (28 + ton f m)) = s - (28 + ton f m) := IntWalk.i64_in _ (by omega)
  have e1 := Lib.hid (show (s - (28 + ton f m)) % 7 = (s - ton f m) % 7 by omega)
  have Q1 := Lib.hid q1
  clear q1
  go_enter Try.func26, Try.ntmps26
  go_wp2_with fail
  have k0 : Blk (w.alloc (Obj.cells #[.int .i64 s, .int .i64 a, .int .i64 o] 27)) (w.heap.size) 27 #[.int .i64 s, .int .i64 a, .int .i64 o] := (by repeat' (first | (with_reducible assumption) | (with_reducible exact Blk.new _ _ _) | (with_reducible exact Blk.new' (by simp)) | (with_reducible refine Blk.alloc ?_ _) | (with_reducible refine Blk.drew ?_) | (with_reducible refine Blk.drewN ?_ _) | (with_reducible refine Blk.ne ?_ ?_ _) | omega | (simp; omega)))
  have hB : Below w.heap.size w (w.alloc (Obj.cells #[.int .i64 s, .int .i64 a, .int .i64 o] 27)) := by go_grown
  generalize (w.alloc (Obj.cells #[.int .i64 s, .int .i64 a, .int .i64 o] 27)) = c0 at *
  have k0_c0 : c0.cell? ⟨w.heap.size, 0, none⟩ = some (.int .i64 s) := Blk.get k0 rfl
  have k0_f0 : c0.frozen? ⟨w.heap.size, 0, none⟩ = false := Blk.frozen k0 0
  have k0_c1 : c0.cell? ⟨w.heap.size, 1, none⟩ = some (.int .i64 a) := Blk.get k0 rfl
  have k0_f1 : c0.frozen? ⟨w.heap.size, 1, none⟩ = false := Blk.frozen k0 1
  have k0_c2 : c0.cell? ⟨w.heap.size, 2, none⟩ = some (.int .i64 o) := Blk.get k0 rfl
  have k0_f2 : c0.frozen? ⟨w.heap.size, 2, none⟩ = false := Blk.frozen k0 2
  have k0_z : w.heap.size < c0.heap.size := Blk.lt k0
  go_call (isKey_any _ _) as e w1 ⟨rfl, rfl⟩
  go_wp2_with fail
  go_call (pitchValid_any _ _ _ _) as e c1 ⟨rfl, hb⟩
  replace k0 : Blk c1 (w.heap.size) 27 #[.int .i64 s, .int .i64 a, .int .i64 o] := Blk.pure (by repeat' (first | (with_reducible assumption) | (with_reducible exact Blk.new _ _ _) | (with_reducible exact Blk.new' (by simp)) | (with_reducible refine Blk.alloc ?_ _) | (with_reducible refine Blk.drew ?_) | (with_reducible refine Blk.drewN ?_ _) | (with_reducible refine Blk.ne ?_ ?_ _) | omega | (simp; omega))) hb
  replace hB := below_pure (w := w) (by go_grown) hb
  clear hb
  clear k0_c0 k0_f0 k0_c1 k0_f1 k0_c2 k0_f2 k0_z
  have k0_c0 : c1.cell? ⟨w.heap.size, 0, none⟩ = some (.int .i64 s) := Blk.get k0 rfl
  have k0_f0 : c1.frozen? ⟨w.heap.size, 0, none⟩ = false := Blk.frozen k0 0
  have k0_c1 : c1.cell? ⟨w.heap.size, 1, none⟩ = some (.int .i64 a) := Blk.get k0 rfl
  have k0_f1 : c1.frozen? ⟨w.heap.size, 1, none⟩ = false := Blk.frozen k0 1
  have k0_c2 : c1.cell? ⟨w.heap.size, 2, none⟩ = some (.int .i64 o) := Blk.get k0 rfl
  have k0_f2 : c1.frozen? ⟨w.heap.size, 2, none⟩ = false := Blk.frozen k0 2
  have k0_z : w.heap.size < c1.heap.size := Blk.lt k0
  go_wp2_with fail
  have q1 := Q1.out
  have q3 := Q3.out
  have HSd := Lib.hid (show Blk c1.drew (w.heap.size) 27 #[.int .i64 s, .int .i64 a, .int .i64 o] ∧ c1.drew.cell? ⟨w.heap.size, 0, none⟩ = some (.int .i64 s) ∧ c1.drew.cell? ⟨w.heap.size, 1, none⟩ = some (.int .i64 a) ∧ c1.drew.cell? ⟨w.heap.size, 2, none⟩ = some (.int .i64 o) ∧ Below w.heap.size w c1.drew from ⟨k0, k0_c0, k0_c1, k0_c2, hB.drew⟩)
  have hz : w.heap.size < c1.heap.size := k0_z
  clear hB k0_c0 k0_f0 k0_c1 k0_f1 k0_c2 k0_f2 k0_z k0
  go_region_held3 (fun w' => Blk w' (w.heap.size) 27 #[.int .i64 s, .int .i64 a, .int .i64 o] ∧ w'.cell? ⟨w.heap.size, 0, none⟩ = some (.int .i64 s) ∧ w'.cell? ⟨w.heap.size, 1, none⟩ = some (.int .i64 a) ∧ w'.cell? ⟨w.heap.size, 2, none⟩ = some (.int .i64 o) ∧ Below w.heap.size w w')
    (first | exact HSd.out | (go_split_ands; go_split_ands; (repeat' apply And.intro) <;> first | (with_reducible assumption) | (with_reducible exact Blk.pure (by assumption) hbc) | (with_reducible exact Blk.get (Blk.pure (by assumption) hbc) rfl) | (with_reducible exact below_pure (by assumption) hbc) | (with_reducible exact Blk.alloc (by assumption) _) | (with_reducible exact Blk.get (Blk.alloc (by assumption) _) rfl) | (with_reducible exact Below.alloc (by assumption) (Below.size (by assumption)) _) | (with_reducible exact Blk.drew (Blk.alloc (Blk.undrew (by assumption)) _)) | (with_reducible exact Blk.get (Blk.drew (Blk.alloc (Blk.undrew (by assumption)) _)) rfl) | (with_reducible exact Below.drew (Below.alloc (below_undrew (by assumption)) (Below.size (below_undrew (by assumption))) _)) | (with_reducible exact Blk.swap (by assumption) (by omega)) | (with_reducible exact Blk.get (Blk.swap (by assumption) (by omega)) rfl) | (with_reducible exact below_swap (by assumption) (by omega))))
    (first | ((go_at_call 55; refine (same_gives (tonicPlace_any _ _ b0 b1 _)).mono ?_; rintro e w2 ⟨rfl, hbc⟩); have hz : w.heap.size < w2.heap.size := (by (go_split_ands; refine Nat.lt_of_lt_of_le ?_ hbc.size; exact Blk.lt (by assumption)))) | ((go_at_call 56; refine (same_gives (modulo_any _ _)).mono ?_; rintro e w2 ⟨rfl, hbc⟩); have hz : w.heap.size < w2.heap.size := (by (go_split_ands; refine Nat.lt_of_lt_of_le ?_ hbc.size; exact Blk.lt (by assumption)))) | ((go_at_call 18; refine (HK.out _).mono ?_; rintro e w2 ⟨rfl, hbc⟩); have hz : w.heap.size < w2.heap.size := (by (go_split_ands; refine Nat.lt_of_lt_of_le ?_ hbc.size; exact Blk.lt (by assumption)))))
  all_goals
    clear HSd
    go_split_ands
    go_wp2
    go_ret2
    exact ⟨by rw [← e1.out]; rfl, by assumption⟩

set_option maxHeartbeats 2000000 in
theorem specDegreeOf_any (f : Int) (m : Bool) (s a o : Int) (w : World) :
    Calls Try.prog 25 #[.int .i64 f, .bool m, .agg #[.int .i64 s, .int .i64 a, .int .i64 o]] w (Gives (.tuple #[.int .i64 (degV f m s a o), .int .i64 (degD f s a o)]) w) := by
  cases h1 : inR f (-7) 7
  · have hR : degB f s a o = false := by unfold degB; rw [h1]; rfl
    rw [degV_f hR, degD_f hR]
    clear hR
    go_enter Try.func25, Try.ntmps25
    go_wp2_with (go_call (l1In_any _ _ _ _) as e w1 ⟨rfl, rfl⟩)
    go_ret2
    exact ⟨rfl, by go_grown⟩
  cases h2 : pitchB s a o
  · have hR : degB f s a o = false := by unfold degB; rw [h1, h2]; rfl
    rw [degV_f hR, degD_f hR]
    clear hR
    go_enter Try.func25, Try.ntmps25
    go_wp2_with fail
    have k0 : Blk (w.alloc (Obj.cells #[.int .i64 s, .int .i64 a, .int .i64 o] 27)) (w.heap.size) 27 #[.int .i64 s, .int .i64 a, .int .i64 o] := (by repeat' (first | (with_reducible assumption) | (with_reducible exact Blk.new _ _ _) | (with_reducible exact Blk.new' (by simp)) | (with_reducible refine Blk.alloc ?_ _) | (with_reducible refine Blk.drew ?_) | (with_reducible refine Blk.drewN ?_ _) | (with_reducible refine Blk.ne ?_ ?_ _) | omega | (simp; omega)))
    have hB : Below w.heap.size w (w.alloc (Obj.cells #[.int .i64 s, .int .i64 a, .int .i64 o] 27)) := by go_grown
    generalize (w.alloc (Obj.cells #[.int .i64 s, .int .i64 a, .int .i64 o] 27)) = c0 at *
    have k0_c0 : c0.cell? ⟨w.heap.size, 0, none⟩ = some (.int .i64 s) := Blk.get k0 rfl
    have k0_f0 : c0.frozen? ⟨w.heap.size, 0, none⟩ = false := Blk.frozen k0 0
    have k0_c1 : c0.cell? ⟨w.heap.size, 1, none⟩ = some (.int .i64 a) := Blk.get k0 rfl
    have k0_f1 : c0.frozen? ⟨w.heap.size, 1, none⟩ = false := Blk.frozen k0 1
    have k0_c2 : c0.cell? ⟨w.heap.size, 2, none⟩ = some (.int .i64 o) := Blk.get k0 rfl
    have k0_f2 : c0.frozen? ⟨w.heap.size, 2, none⟩ = false := Blk.frozen k0 2
    have k0_z : w.heap.size < c0.heap.size := Blk.lt k0
    go_call (l1In_any _ _ _ _) as e w1 ⟨rfl, rfl⟩
    go_wp2_with fail
    go_call (specPitchValid_any _ _ _ _) as e c1 ⟨rfl, hb⟩
    replace k0 : Blk c1 (w.heap.size) 27 #[.int .i64 s, .int .i64 a, .int .i64 o] := Blk.pure (by repeat' (first | (with_reducible assumption) | (with_reducible exact Blk.new _ _ _) | (with_reducible exact Blk.new' (by simp)) | (with_reducible refine Blk.alloc ?_ _) | (with_reducible refine Blk.drew ?_) | (with_reducible refine Blk.drewN ?_ _) | (with_reducible refine Blk.ne ?_ ?_ _) | omega | (simp; omega))) hb
    replace hB := below_pure (w := w) (by go_grown) hb
    clear hb
    clear k0_c0 k0_f0 k0_c1 k0_f1 k0_c2 k0_f2 k0_z
    have k0_c0 : c1.cell? ⟨w.heap.size, 0, none⟩ = some (.int .i64 s) := Blk.get k0 rfl
    have k0_f0 : c1.frozen? ⟨w.heap.size, 0, none⟩ = false := Blk.frozen k0 0
    have k0_c1 : c1.cell? ⟨w.heap.size, 1, none⟩ = some (.int .i64 a) := Blk.get k0 rfl
    have k0_f1 : c1.frozen? ⟨w.heap.size, 1, none⟩ = false := Blk.frozen k0 1
    have k0_c2 : c1.cell? ⟨w.heap.size, 2, none⟩ = some (.int .i64 o) := Blk.get k0 rfl
    have k0_f2 : c1.frozen? ⟨w.heap.size, 2, none⟩ = false := Blk.frozen k0 2
    have k0_z : w.heap.size < c1.heap.size := Blk.lt k0
    go_wp2
    go_ret2
    exact ⟨rfl, hB⟩
  have hR : degB f s a o = true := by unfold degB; rw [h1, h2]; rfl
  rw [degV_t hR, degD_t hR]
  clear hR
  obtain ⟨b0, b1⟩ := inR_t h1
  obtain ⟨b2, b3, b4, b5, -, -⟩ := pitchB_t h2
  obtain ⟨t0, t1⟩ := ton_bd f m
  obtain ⟨a0, a1⟩ := alt_bd f s
  have q3 : IntKind.i64.wrap (a - alt f s) = a - alt f s := IntWalk.i64_in _ (by omega)
  have Q3 := Lib.hid q3
  clear q3
  have q1 : IntKind.i64.wrap (s - ton f m) = s - ton f m := IntWalk.i64_in _ (by omega)
  have q2 : IntKind.i64.wrap (s - ton f m + 7) = s - ton f m + 7 := IntWalk.i64_in _ (by omega)
  have q4 : (s - ton f m + 7).tmod 7 = (s - ton f m + 7) % 7 := Int.tmod_eq_emod_of_nonneg (by omega)
  have Q2 := Lib.hid q2
  have Q4 := Lib.hid q4
  clear q2 q4
  have e1 := Lib.hid (show (s - ton f m + 7) % 7 = (s - ton f m) % 7 by omega)
  have Q1 := Lib.hid q1
  clear q1
  go_enter Try.func25, Try.ntmps25
  go_wp2_with fail
  have k0 : Blk (w.alloc (Obj.cells #[.int .i64 s, .int .i64 a, .int .i64 o] 27)) (w.heap.size) 27 #[.int .i64 s, .int .i64 a, .int .i64 o] := (by repeat' (first | (with_reducible assumption) | (with_reducible exact Blk.new _ _ _) | (with_reducible exact Blk.new' (by simp)) | (with_reducible refine Blk.alloc ?_ _) | (with_reducible refine Blk.drew ?_) | (with_reducible refine Blk.drewN ?_ _) | (with_reducible refine Blk.ne ?_ ?_ _) | omega | (simp; omega)))
  have hB : Below w.heap.size w (w.alloc (Obj.cells #[.int .i64 s, .int .i64 a, .int .i64 o] 27)) := by go_grown
  generalize (w.alloc (Obj.cells #[.int .i64 s, .int .i64 a, .int .i64 o] 27)) = c0 at *
  have k0_c0 : c0.cell? ⟨w.heap.size, 0, none⟩ = some (.int .i64 s) := Blk.get k0 rfl
  have k0_f0 : c0.frozen? ⟨w.heap.size, 0, none⟩ = false := Blk.frozen k0 0
  have k0_c1 : c0.cell? ⟨w.heap.size, 1, none⟩ = some (.int .i64 a) := Blk.get k0 rfl
  have k0_f1 : c0.frozen? ⟨w.heap.size, 1, none⟩ = false := Blk.frozen k0 1
  have k0_c2 : c0.cell? ⟨w.heap.size, 2, none⟩ = some (.int .i64 o) := Blk.get k0 rfl
  have k0_f2 : c0.frozen? ⟨w.heap.size, 2, none⟩ = false := Blk.frozen k0 2
  have k0_z : w.heap.size < c0.heap.size := Blk.lt k0
  go_call (l1In_any _ _ _ _) as e w1 ⟨rfl, rfl⟩
  go_wp2_with fail
  go_call (specPitchValid_any _ _ _ _) as e c1 ⟨rfl, hb⟩
  replace k0 : Blk c1 (w.heap.size) 27 #[.int .i64 s, .int .i64 a, .int .i64 o] := Blk.pure (by repeat' (first | (with_reducible assumption) | (with_reducible exact Blk.new _ _ _) | (with_reducible exact Blk.new' (by simp)) | (with_reducible refine Blk.alloc ?_ _) | (with_reducible refine Blk.drew ?_) | (with_reducible refine Blk.drewN ?_ _) | (with_reducible refine Blk.ne ?_ ?_ _) | omega | (simp; omega))) hb
  replace hB := below_pure (w := w) (by go_grown) hb
  clear hb
  clear k0_c0 k0_f0 k0_c1 k0_f1 k0_c2 k0_f2 k0_z
  have k0_c0 : c1.cell? ⟨w.heap.size, 0, none⟩ = some (.int .i64 s) := Blk.get k0 rfl
  have k0_f0 : c1.frozen? ⟨w.heap.size, 0, none⟩ = false := Blk.frozen k0 0
  have k0_c1 : c1.cell? ⟨w.heap.size, 1, none⟩ = some (.int .i64 a) := Blk.get k0 rfl
  have k0_f1 : c1.frozen? ⟨w.heap.size, 1, none⟩ = false := Blk.frozen k0 1
  have k0_c2 : c1.cell? ⟨w.heap.size, 2, none⟩ = some (.int .i64 o) := Blk.get k0 rfl
  have k0_f2 : c1.frozen? ⟨w.heap.size, 2, none⟩ = false := Blk.frozen k0 2
  have k0_z : w.heap.size < c1.heap.size := Blk.lt k0
  go_wp2_with fail
  have q1 := Q1.out
  have q3 := Q3.out
  have q2 := Q2.out
  have q4 := Q4.out
  have HSd := Lib.hid (show Blk c1.drew (w.heap.size) 27 #[.int .i64 s, .int .i64 a, .int .i64 o] ∧ c1.drew.cell? ⟨w.heap.size, 0, none⟩ = some (.int .i64 s) ∧ c1.drew.cell? ⟨w.heap.size, 1, none⟩ = some (.int .i64 a) ∧ c1.drew.cell? ⟨w.heap.size, 2, none⟩ = some (.int .i64 o) ∧ Below w.heap.size w c1.drew from ⟨k0, k0_c0, k0_c1, k0_c2, hB.drew⟩)
  have hz : w.heap.size < c1.heap.size := k0_z
  clear hB k0_c0 k0_f0 k0_c1 k0_f1 k0_c2 k0_f2 k0_z k0
  go_region_held3 (fun w' => Blk w' (w.heap.size) 27 #[.int .i64 s, .int .i64 a, .int .i64 o] ∧ w'.cell? ⟨w.heap.size, 0, none⟩ = some (.int .i64 s) ∧ w'.cell? ⟨w.heap.size, 1, none⟩ = some (.int .i64 a) ∧ w'.cell? ⟨w.heap.size, 2, none⟩ = some (.int .i64 o) ∧ Below w.heap.size w w')
    (first | exact HSd.out | (go_split_ands; go_split_ands; (repeat' apply And.intro) <;> first | (with_reducible assumption) | (with_reducible exact Blk.pure (by assumption) hbc) | (with_reducible exact Blk.get (Blk.pure (by assumption) hbc) rfl) | (with_reducible exact below_pure (by assumption) hbc) | (with_reducible exact Blk.alloc (by assumption) _) | (with_reducible exact Blk.get (Blk.alloc (by assumption) _) rfl) | (with_reducible exact Below.alloc (by assumption) (Below.size (by assumption)) _) | (with_reducible exact Blk.drew (Blk.alloc (Blk.undrew (by assumption)) _)) | (with_reducible exact Blk.get (Blk.drew (Blk.alloc (Blk.undrew (by assumption)) _)) rfl) | (with_reducible exact Below.drew (Below.alloc (below_undrew (by assumption)) (Below.size (below_undrew (by assumption))) _)) | (with_reducible exact Blk.swap (by assumption) (by omega)) | (with_reducible exact Blk.get (Blk.swap (by assumption) (by omega)) rfl) | (with_reducible exact below_swap (by assumption) (by omega))))
    (first | ((go_at_call 53; refine (same_gives (l3Tonic_any _ _ b0 b1 _)).mono ?_; rintro e w2 ⟨rfl, hbc⟩); have hz : w.heap.size < w2.heap.size := (by (go_split_ands; refine Nat.lt_of_lt_of_le ?_ hbc.size; exact Blk.lt (by assumption)))) | ((go_at_call 49; refine (l3Alter_any _ _ b0 b1 b2 b3 _).mono ?_; rintro e w2 ⟨rfl, hbc⟩); have hz : w.heap.size < w2.heap.size := (by (go_split_ands; refine Nat.lt_of_lt_of_le ?_ hbc.size; exact Blk.lt (by assumption)))))
  all_goals
    clear HSd
    go_split_ands
    go_wp2
    go_ret2
    exact ⟨by rw [← e1.out]; rfl, by assumption⟩

end Go.Proofs.Ytojkbeffhjcaiaa

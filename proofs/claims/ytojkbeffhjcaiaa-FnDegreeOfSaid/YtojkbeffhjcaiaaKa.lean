/- The walks of the functions on the alterations of a key. No condition. -/
import Derived.Test.YtojkbeffhjcaiaaKitb
namespace Go.Proofs.Ytojkbeffhjcaiaa
open Go.RowKit

/-- At which place a step stands in the order of the sharps. -/
def pos (s : Int) : Int := if s = 0 then 1 else if s = 1 then 3 else if s = 2 then 5 else if s = 3 then 0 else if s = 4 then 2 else if s = 5 then 4 else 6
def alt (f s : Int) : Int := if pos s < f then 1 else if f < pos s - 6 then -1 else 0
def keyB (f s : Int) : Bool := inR f (-7) 7 && inR s 0 6
def altV (f s : Int) : Int := if keyB f s then alt f s else 0
theorem alt_1 {f s : Int} (h : pos s < f) : alt f s = 1 := by unfold alt; rw [if_pos h]
theorem alt_m {f s : Int} (h : ¬ pos s < f) (h' : f < pos s - 6) : alt f s = -1 := by unfold alt; rw [if_neg h, if_pos h']
theorem alt_0 {f s : Int} (h : ¬ pos s < f) (h' : ¬ f < pos s - 6) : alt f s = 0 := by unfold alt; rw [if_neg h, if_neg h']
theorem alt_bd (f s : Int) : -1 ≤ alt f s ∧ alt f s ≤ 1 := by
  by_cases h : pos s < f
  · rw [alt_1 h]
    omega
  · by_cases h' : f < pos s - 6
    · rw [alt_m h h']
      omega
    · rw [alt_0 h h']
      omega
theorem altV_t {f s : Int} (h : keyB f s = true) : altV f s = alt f s := by unfold altV; rw [if_pos h]
theorem altV_f {f s : Int} (h : keyB f s = false) : altV f s = 0 := by unfold altV; rw [h]; rfl
theorem altV_bd (f s : Int) : -1 ≤ altV f s ∧ altV f s ≤ 1 := by
  cases h : keyB f s
  · rw [altV_f h]
    omega
  · rw [altV_t h]
    exact alt_bd f s
theorem keyB_t {f s : Int} (h : keyB f s = true) : -7 ≤ f ∧ f ≤ 7 ∧ 0 ≤ s ∧ s ≤ 6 := by
  unfold keyB at h
  rw [Bool.and_eq_true] at h
  have h1 := inR_t h.1
  have h2 := inR_t h.2
  omega
theorem keyB_mk {f s : Int} (h : -7 ≤ f ∧ f ≤ 7 ∧ 0 ≤ s ∧ s ≤ 6) : keyB f s = true := by
  unfold keyB inR
  simp only [Bool.and_eq_true, decide_eq_true_eq]
  omega

set_option maxHeartbeats 400000 in
theorem isKey_any (f : Int) (w : World) : Calls Try.prog 50 #[.int .i64 f] w fun e w' => e = .returned (.bool (inR f (-7) 7)) ∧ w = w' := by
  go_enter Try.func50, Try.ntmps50
  go_wp2_with (go_call (within_any _ _ _ _) as e w1 ⟨rfl, rfl⟩)
  go_ret
  exact ⟨rfl, rfl⟩

set_option maxHeartbeats 1000000 in
theorem keyAlter_any (f s : Int) (w : World) : Calls Try.prog 18 #[.int .i64 f, .int .i64 s] w (Gives (.int .i64 (altV f s)) w) := by
  cases h1 : inR f (-7) 7
  · have HR := Lib.hid (altV_f (f := f) (s := s) (by unfold keyB; rw [h1]; rfl))
    go_enter Try.func18, Try.ntmps18
    go_wp2_with (first | go_call (isKey_any _ _) as e w1 ⟨rfl, rfl⟩ | go_call (within_any _ _ _ _) as e w1 ⟨rfl, rfl⟩)
    go_ret
    exact ⟨by rw [HR.out]; rfl, by go_grown⟩
  cases h2 : inR s 0 6
  · have HR := Lib.hid (altV_f (f := f) (s := s) (by unfold keyB; rw [h1, h2]; rfl))
    go_enter Try.func18, Try.ntmps18
    go_wp2_with (first | go_call (isKey_any _ _) as e w1 ⟨rfl, rfl⟩ | go_call (within_any _ _ _ _) as e w1 ⟨rfl, rfl⟩)
    go_ret
    exact ⟨by rw [HR.out]; rfl, by go_grown⟩
  obtain ⟨b0, b1⟩ := inR_t h1
  obtain ⟨b2, b3⟩ := inR_t h2
  have HT := Lib.hid (altV_t (keyB_mk ⟨b0, b1, b2, b3⟩))
  have i0 : ∀ W, (Instr.index 63 (.agg #[.int .i64 3, .int .i64 0, .int .i64 4, .int .i64 1, .int .i64 5, .int .i64 2, .int .i64 6]) (.int .i64 0)).run Try.prog W = .ok (.int .i64 3) W := fun _ => by kernel_rfl
  have i1 : ∀ W, (Instr.index 63 (.agg #[.int .i64 3, .int .i64 0, .int .i64 4, .int .i64 1, .int .i64 5, .int .i64 2, .int .i64 6]) (.int .i64 1)).run Try.prog W = .ok (.int .i64 0) W := fun _ => by kernel_rfl
  have i2 : ∀ W, (Instr.index 63 (.agg #[.int .i64 3, .int .i64 0, .int .i64 4, .int .i64 1, .int .i64 5, .int .i64 2, .int .i64 6]) (.int .i64 2)).run Try.prog W = .ok (.int .i64 4) W := fun _ => by kernel_rfl
  have i3 : ∀ W, (Instr.index 63 (.agg #[.int .i64 3, .int .i64 0, .int .i64 4, .int .i64 1, .int .i64 5, .int .i64 2, .int .i64 6]) (.int .i64 3)).run Try.prog W = .ok (.int .i64 1) W := fun _ => by kernel_rfl
  have i4 : ∀ W, (Instr.index 63 (.agg #[.int .i64 3, .int .i64 0, .int .i64 4, .int .i64 1, .int .i64 5, .int .i64 2, .int .i64 6]) (.int .i64 4)).run Try.prog W = .ok (.int .i64 5) W := fun _ => by kernel_rfl
  have i5 : ∀ W, (Instr.index 63 (.agg #[.int .i64 3, .int .i64 0, .int .i64 4, .int .i64 1, .int .i64 5, .int .i64 2, .int .i64 6]) (.int .i64 5)).run Try.prog W = .ok (.int .i64 2) W := fun _ => by kernel_rfl
  have i6 : ∀ W, (Instr.index 63 (.agg #[.int .i64 3, .int .i64 0, .int .i64 4, .int .i64 1, .int .i64 5, .int .i64 2, .int .i64 6]) (.int .i64 6)).run Try.prog W = .ok (.int .i64 6) W := fun _ => by kernel_rfl
  obtain rfl | rfl | rfl | rfl | rfl | rfl | rfl : s = 0 ∨ s = 1 ∨ s = 2 ∨ s = 3 ∨ s = 4 ∨ s = 5 ∨ s = 6 := by omega
  · by_cases g : 1 < f
    · have HR := Lib.hid (HT.out.trans (alt_1 (f := f) (s := 0) g))
      go_enter Try.func18, Try.ntmps18
      go_wp2_with (first | go_call (isKey_any _ _) as e w1 ⟨rfl, rfl⟩ | go_call (within_any _ _ _ _) as e w1 ⟨rfl, rfl⟩)
      go_rounds 2
      go_ret
      exact ⟨by rw [HR.out]; rfl, by go_grown⟩
    by_cases g' : 5 < -f
    · have HR := Lib.hid (HT.out.trans (alt_m (f := f) (s := 0) g (by show f < 1 - 6; omega)))
      go_enter Try.func18, Try.ntmps18
      go_wp2_with (first | go_call (isKey_any _ _) as e w1 ⟨rfl, rfl⟩ | go_call (within_any _ _ _ _) as e w1 ⟨rfl, rfl⟩)
      go_rounds 2
      go_ret
      exact ⟨by rw [HR.out]; rfl, by go_grown⟩
    · have HR := Lib.hid (HT.out.trans (alt_0 (f := f) (s := 0) g (by show ¬ f < 1 - 6; omega)))
      go_enter Try.func18, Try.ntmps18
      go_wp2_with (first | go_call (isKey_any _ _) as e w1 ⟨rfl, rfl⟩ | go_call (within_any _ _ _ _) as e w1 ⟨rfl, rfl⟩)
      go_rounds 8
      go_ret
      exact ⟨by rw [HR.out]; rfl, by go_grown⟩
  · by_cases g : 3 < f
    · have HR := Lib.hid (HT.out.trans (alt_1 (f := f) (s := 1) g))
      go_enter Try.func18, Try.ntmps18
      go_wp2_with (first | go_call (isKey_any _ _) as e w1 ⟨rfl, rfl⟩ | go_call (within_any _ _ _ _) as e w1 ⟨rfl, rfl⟩)
      go_rounds 4
      go_ret
      exact ⟨by rw [HR.out]; rfl, by go_grown⟩
    by_cases g' : 3 < -f
    · have HR := Lib.hid (HT.out.trans (alt_m (f := f) (s := 1) g (by show f < 3 - 6; omega)))
      go_enter Try.func18, Try.ntmps18
      go_wp2_with (first | go_call (isKey_any _ _) as e w1 ⟨rfl, rfl⟩ | go_call (within_any _ _ _ _) as e w1 ⟨rfl, rfl⟩)
      go_rounds 4
      go_ret
      exact ⟨by rw [HR.out]; rfl, by go_grown⟩
    · have HR := Lib.hid (HT.out.trans (alt_0 (f := f) (s := 1) g (by show ¬ f < 3 - 6; omega)))
      go_enter Try.func18, Try.ntmps18
      go_wp2_with (first | go_call (isKey_any _ _) as e w1 ⟨rfl, rfl⟩ | go_call (within_any _ _ _ _) as e w1 ⟨rfl, rfl⟩)
      go_rounds 8
      go_ret
      exact ⟨by rw [HR.out]; rfl, by go_grown⟩
  · by_cases g : 5 < f
    · have HR := Lib.hid (HT.out.trans (alt_1 (f := f) (s := 2) g))
      go_enter Try.func18, Try.ntmps18
      go_wp2_with (first | go_call (isKey_any _ _) as e w1 ⟨rfl, rfl⟩ | go_call (within_any _ _ _ _) as e w1 ⟨rfl, rfl⟩)
      go_rounds 6
      go_ret
      exact ⟨by rw [HR.out]; rfl, by go_grown⟩
    by_cases g' : 1 < -f
    · have HR := Lib.hid (HT.out.trans (alt_m (f := f) (s := 2) g (by show f < 5 - 6; omega)))
      go_enter Try.func18, Try.ntmps18
      go_wp2_with (first | go_call (isKey_any _ _) as e w1 ⟨rfl, rfl⟩ | go_call (within_any _ _ _ _) as e w1 ⟨rfl, rfl⟩)
      go_rounds 6
      go_ret
      exact ⟨by rw [HR.out]; rfl, by go_grown⟩
    · have HR := Lib.hid (HT.out.trans (alt_0 (f := f) (s := 2) g (by show ¬ f < 5 - 6; omega)))
      go_enter Try.func18, Try.ntmps18
      go_wp2_with (first | go_call (isKey_any _ _) as e w1 ⟨rfl, rfl⟩ | go_call (within_any _ _ _ _) as e w1 ⟨rfl, rfl⟩)
      go_rounds 8
      go_ret
      exact ⟨by rw [HR.out]; rfl, by go_grown⟩
  · by_cases g : 0 < f
    · have HR := Lib.hid (HT.out.trans (alt_1 (f := f) (s := 3) g))
      go_enter Try.func18, Try.ntmps18
      go_wp2_with (first | go_call (isKey_any _ _) as e w1 ⟨rfl, rfl⟩ | go_call (within_any _ _ _ _) as e w1 ⟨rfl, rfl⟩)
      go_rounds 1
      go_ret
      exact ⟨by rw [HR.out]; rfl, by go_grown⟩
    by_cases g' : 6 < -f
    · have HR := Lib.hid (HT.out.trans (alt_m (f := f) (s := 3) g (by show f < 0 - 6; omega)))
      go_enter Try.func18, Try.ntmps18
      go_wp2_with (first | go_call (isKey_any _ _) as e w1 ⟨rfl, rfl⟩ | go_call (within_any _ _ _ _) as e w1 ⟨rfl, rfl⟩)
      go_rounds 1
      go_ret
      exact ⟨by rw [HR.out]; rfl, by go_grown⟩
    · have HR := Lib.hid (HT.out.trans (alt_0 (f := f) (s := 3) g (by show ¬ f < 0 - 6; omega)))
      go_enter Try.func18, Try.ntmps18
      go_wp2_with (first | go_call (isKey_any _ _) as e w1 ⟨rfl, rfl⟩ | go_call (within_any _ _ _ _) as e w1 ⟨rfl, rfl⟩)
      go_rounds 8
      go_ret
      exact ⟨by rw [HR.out]; rfl, by go_grown⟩
  · by_cases g : 2 < f
    · have HR := Lib.hid (HT.out.trans (alt_1 (f := f) (s := 4) g))
      go_enter Try.func18, Try.ntmps18
      go_wp2_with (first | go_call (isKey_any _ _) as e w1 ⟨rfl, rfl⟩ | go_call (within_any _ _ _ _) as e w1 ⟨rfl, rfl⟩)
      go_rounds 3
      go_ret
      exact ⟨by rw [HR.out]; rfl, by go_grown⟩
    by_cases g' : 4 < -f
    · have HR := Lib.hid (HT.out.trans (alt_m (f := f) (s := 4) g (by show f < 2 - 6; omega)))
      go_enter Try.func18, Try.ntmps18
      go_wp2_with (first | go_call (isKey_any _ _) as e w1 ⟨rfl, rfl⟩ | go_call (within_any _ _ _ _) as e w1 ⟨rfl, rfl⟩)
      go_rounds 3
      go_ret
      exact ⟨by rw [HR.out]; rfl, by go_grown⟩
    · have HR := Lib.hid (HT.out.trans (alt_0 (f := f) (s := 4) g (by show ¬ f < 2 - 6; omega)))
      go_enter Try.func18, Try.ntmps18
      go_wp2_with (first | go_call (isKey_any _ _) as e w1 ⟨rfl, rfl⟩ | go_call (within_any _ _ _ _) as e w1 ⟨rfl, rfl⟩)
      go_rounds 8
      go_ret
      exact ⟨by rw [HR.out]; rfl, by go_grown⟩
  · by_cases g : 4 < f
    · have HR := Lib.hid (HT.out.trans (alt_1 (f := f) (s := 5) g))
      go_enter Try.func18, Try.ntmps18
      go_wp2_with (first | go_call (isKey_any _ _) as e w1 ⟨rfl, rfl⟩ | go_call (within_any _ _ _ _) as e w1 ⟨rfl, rfl⟩)
      go_rounds 5
      go_ret
      exact ⟨by rw [HR.out]; rfl, by go_grown⟩
    by_cases g' : 2 < -f
    · have HR := Lib.hid (HT.out.trans (alt_m (f := f) (s := 5) g (by show f < 4 - 6; omega)))
      go_enter Try.func18, Try.ntmps18
      go_wp2_with (first | go_call (isKey_any _ _) as e w1 ⟨rfl, rfl⟩ | go_call (within_any _ _ _ _) as e w1 ⟨rfl, rfl⟩)
      go_rounds 5
      go_ret
      exact ⟨by rw [HR.out]; rfl, by go_grown⟩
    · have HR := Lib.hid (HT.out.trans (alt_0 (f := f) (s := 5) g (by show ¬ f < 4 - 6; omega)))
      go_enter Try.func18, Try.ntmps18
      go_wp2_with (first | go_call (isKey_any _ _) as e w1 ⟨rfl, rfl⟩ | go_call (within_any _ _ _ _) as e w1 ⟨rfl, rfl⟩)
      go_rounds 8
      go_ret
      exact ⟨by rw [HR.out]; rfl, by go_grown⟩
  · by_cases g : 6 < f
    · have HR := Lib.hid (HT.out.trans (alt_1 (f := f) (s := 6) g))
      go_enter Try.func18, Try.ntmps18
      go_wp2_with (first | go_call (isKey_any _ _) as e w1 ⟨rfl, rfl⟩ | go_call (within_any _ _ _ _) as e w1 ⟨rfl, rfl⟩)
      go_rounds 7
      go_ret
      exact ⟨by rw [HR.out]; rfl, by go_grown⟩
    by_cases g' : 0 < -f
    · have HR := Lib.hid (HT.out.trans (alt_m (f := f) (s := 6) g (by show f < 6 - 6; omega)))
      go_enter Try.func18, Try.ntmps18
      go_wp2_with (first | go_call (isKey_any _ _) as e w1 ⟨rfl, rfl⟩ | go_call (within_any _ _ _ _) as e w1 ⟨rfl, rfl⟩)
      go_rounds 7
      go_ret
      exact ⟨by rw [HR.out]; rfl, by go_grown⟩
    · have HR := Lib.hid (HT.out.trans (alt_0 (f := f) (s := 6) g (by show ¬ f < 6 - 6; omega)))
      go_enter Try.func18, Try.ntmps18
      go_wp2_with (first | go_call (isKey_any _ _) as e w1 ⟨rfl, rfl⟩ | go_call (within_any _ _ _ _) as e w1 ⟨rfl, rfl⟩)
      go_rounds 8
      go_ret
      exact ⟨by rw [HR.out]; rfl, by go_grown⟩

set_option maxHeartbeats 1000000 in
theorem l3Alter_any (f s : Int) (b0 : -7 ≤ f) (b1 : f ≤ 7) (b2 : 0 ≤ s) (b3 : s ≤ 6) (w : World) : Calls Try.prog 49 #[.int .i64 f, .int .i64 s] w (Gives (.int .i64 (alt f s)) w) := by
  obtain rfl | rfl | rfl | rfl | rfl | rfl | rfl : s = 0 ∨ s = 1 ∨ s = 2 ∨ s = 3 ∨ s = 4 ∨ s = 5 ∨ s = 6 := by omega
  · by_cases g : 1 < f
    · have HR := Lib.hid (alt_1 (f := f) (s := 0) g)
      go_enter Try.func49, Try.ntmps49
      go_wp2
      go_ret
      exact ⟨by rw [HR.out]; rfl, by go_grown⟩
    by_cases g' : f < -5
    · have HR := Lib.hid (alt_m (f := f) (s := 0) g (by show f < 1 - 6; omega))
      go_enter Try.func49, Try.ntmps49
      go_wp2
      go_ret
      exact ⟨by rw [HR.out]; rfl, by go_grown⟩
    · have HR := Lib.hid (alt_0 (f := f) (s := 0) g (by show ¬ f < 1 - 6; omega))
      go_enter Try.func49, Try.ntmps49
      go_wp2
      go_ret
      exact ⟨by rw [HR.out]; rfl, by go_grown⟩
  · by_cases g : 3 < f
    · have HR := Lib.hid (alt_1 (f := f) (s := 1) g)
      go_enter Try.func49, Try.ntmps49
      go_wp2
      go_ret
      exact ⟨by rw [HR.out]; rfl, by go_grown⟩
    by_cases g' : f < -3
    · have HR := Lib.hid (alt_m (f := f) (s := 1) g (by show f < 3 - 6; omega))
      go_enter Try.func49, Try.ntmps49
      go_wp2
      go_ret
      exact ⟨by rw [HR.out]; rfl, by go_grown⟩
    · have HR := Lib.hid (alt_0 (f := f) (s := 1) g (by show ¬ f < 3 - 6; omega))
      go_enter Try.func49, Try.ntmps49
      go_wp2
      go_ret
      exact ⟨by rw [HR.out]; rfl, by go_grown⟩
  · by_cases g : 5 < f
    · have HR := Lib.hid (alt_1 (f := f) (s := 2) g)
      go_enter Try.func49, Try.ntmps49
      go_wp2
      go_ret
      exact ⟨by rw [HR.out]; rfl, by go_grown⟩
    by_cases g' : f < -1
    · have HR := Lib.hid (alt_m (f := f) (s := 2) g (by show f < 5 - 6; omega))
      go_enter Try.func49, Try.ntmps49
      go_wp2
      go_ret
      exact ⟨by rw [HR.out]; rfl, by go_grown⟩
    · have HR := Lib.hid (alt_0 (f := f) (s := 2) g (by show ¬ f < 5 - 6; omega))
      go_enter Try.func49, Try.ntmps49
      go_wp2
      go_ret
      exact ⟨by rw [HR.out]; rfl, by go_grown⟩
  · by_cases g : 0 < f
    · have HR := Lib.hid (alt_1 (f := f) (s := 3) g)
      go_enter Try.func49, Try.ntmps49
      go_wp2
      go_ret
      exact ⟨by rw [HR.out]; rfl, by go_grown⟩
    by_cases g' : f < -6
    · have HR := Lib.hid (alt_m (f := f) (s := 3) g (by show f < 0 - 6; omega))
      go_enter Try.func49, Try.ntmps49
      go_wp2
      go_ret
      exact ⟨by rw [HR.out]; rfl, by go_grown⟩
    · have HR := Lib.hid (alt_0 (f := f) (s := 3) g (by show ¬ f < 0 - 6; omega))
      go_enter Try.func49, Try.ntmps49
      go_wp2
      go_ret
      exact ⟨by rw [HR.out]; rfl, by go_grown⟩
  · by_cases g : 2 < f
    · have HR := Lib.hid (alt_1 (f := f) (s := 4) g)
      go_enter Try.func49, Try.ntmps49
      go_wp2
      go_ret
      exact ⟨by rw [HR.out]; rfl, by go_grown⟩
    by_cases g' : f < -4
    · have HR := Lib.hid (alt_m (f := f) (s := 4) g (by show f < 2 - 6; omega))
      go_enter Try.func49, Try.ntmps49
      go_wp2
      go_ret
      exact ⟨by rw [HR.out]; rfl, by go_grown⟩
    · have HR := Lib.hid (alt_0 (f := f) (s := 4) g (by show ¬ f < 2 - 6; omega))
      go_enter Try.func49, Try.ntmps49
      go_wp2
      go_ret
      exact ⟨by rw [HR.out]; rfl, by go_grown⟩
  · by_cases g : 4 < f
    · have HR := Lib.hid (alt_1 (f := f) (s := 5) g)
      go_enter Try.func49, Try.ntmps49
      go_wp2
      go_ret
      exact ⟨by rw [HR.out]; rfl, by go_grown⟩
    by_cases g' : f < -2
    · have HR := Lib.hid (alt_m (f := f) (s := 5) g (by show f < 4 - 6; omega))
      go_enter Try.func49, Try.ntmps49
      go_wp2
      go_ret
      exact ⟨by rw [HR.out]; rfl, by go_grown⟩
    · have HR := Lib.hid (alt_0 (f := f) (s := 5) g (by show ¬ f < 4 - 6; omega))
      go_enter Try.func49, Try.ntmps49
      go_wp2
      go_ret
      exact ⟨by rw [HR.out]; rfl, by go_grown⟩
  · by_cases g : 6 < f
    · have HR := Lib.hid (alt_1 (f := f) (s := 6) g)
      go_enter Try.func49, Try.ntmps49
      go_wp2
      go_ret
      exact ⟨by rw [HR.out]; rfl, by go_grown⟩
    by_cases g' : f < 0
    · have HR := Lib.hid (alt_m (f := f) (s := 6) g (by show f < 6 - 6; omega))
      go_enter Try.func49, Try.ntmps49
      go_wp2
      go_ret
      exact ⟨by rw [HR.out]; rfl, by go_grown⟩
    · have HR := Lib.hid (alt_0 (f := f) (s := 6) g (by show ¬ f < 6 - 6; omega))
      go_enter Try.func49, Try.ntmps49
      go_wp2
      go_ret
      exact ⟨by rw [HR.out]; rfl, by go_grown⟩

set_option maxHeartbeats 1000000 in
theorem specKeyAlter_any (f s : Int) (w : World) : Calls Try.prog 17 #[.int .i64 f, .int .i64 s] w (Gives (.int .i64 (altV f s)) w) := by
  cases h1 : inR f (-7) 7
  · have HR := Lib.hid (altV_f (f := f) (s := s) (by unfold keyB; rw [h1]; rfl))
    go_enter Try.func17, Try.ntmps17
    go_wp2_with (go_call (l1In_any _ _ _ _) as e w1 ⟨rfl, rfl⟩)
    go_ret
    exact ⟨by rw [HR.out]; rfl, by go_grown⟩
  cases h2 : inR s 0 6
  · have HR := Lib.hid (altV_f (f := f) (s := s) (by unfold keyB; rw [h1, h2]; rfl))
    go_enter Try.func17, Try.ntmps17
    go_wp2_with (go_call (l1In_any _ _ _ _) as e w1 ⟨rfl, rfl⟩)
    go_ret
    exact ⟨by rw [HR.out]; rfl, by go_grown⟩
  obtain ⟨b0, b1⟩ := inR_t h1
  obtain ⟨b2, b3⟩ := inR_t h2
  have HT := Lib.hid (altV_t (keyB_mk ⟨b0, b1, b2, b3⟩))
  go_enter Try.func17, Try.ntmps17
  go_wp2_with (first | go_call (l1In_any _ _ _ _) as e w1 ⟨rfl, rfl⟩ | go_call (l3Alter_any _ _ b0 b1 b2 b3 _) as e w1 ⟨rfl, hb⟩)
  go_ret
  exact ⟨by rw [HT.out]; rfl, by assumption⟩
end Go.Proofs.Ytojkbeffhjcaiaa

/- The walks of the functions on intervals, and their plain words. No condition. -/
import Derived.Test.YtmkkhbplfedpoaaPb
import Derived.Deep.RegionHeld3
namespace Go.Proofs.Ytmkkhbplfedpoaa
open Go.RowKit

/-- The steps and half tones of an interval taken upwards. -/
def downB (s h : Int) : Bool := decide (s < 0 ∨ s = 0 ∧ h < 0)
def upS (s h : Int) : Int := if downB s h then -s else s
def upH (s h : Int) : Int := if downB s h then -h else h
/-- The quality of an interval. -/
def qual (s h : Int) : Int := upH s h - natu (upS s h)
def intB (s h : Int) : Bool := inR s (-21) 21 && inR h (-99) 99 && inR (qual s h) (-3) 3

theorem downB_t {s h : Int} (hd : downB s h = true) : s < 0 ∨ s = 0 ∧ h < 0 := by simpa [downB] using hd
theorem downB_f {s h : Int} (hd : downB s h = false) : ¬ (s < 0 ∨ s = 0 ∧ h < 0) := by simpa [downB] using hd
theorem natu_21 (p : Int) (h0 : 0 ≤ p) (h1 : p ≤ 21) : 0 ≤ natu p ∧ natu p ≤ 36 := by
  have h := half_bd (p % 7)
  have hz : half 0 = 0 := rfl
  unfold natu
  by_cases e : p = 21
  · subst e
    simp [hz]
  · omega

set_option maxHeartbeats 400000 in
theorem placeHalves_any (p : Int) (h0 : 0 ≤ p) (h1 : p ≤ 1000) (w : World) :
    Calls Try.prog 74 #[.int .i64 p] w fun e w' => e = .returned (.int .i64 (natu p)) ∧ w = w' := by
  have hd : 0 ≤ p / 7 := by omega
  have hd' : p / 7 ≤ 1000 := by omega
  have hm : 0 ≤ p % 7 := by omega
  have hm' : p % 7 ≤ 6 := by omega
  obtain ⟨c0, c1⟩ := half_bd (p % 7)
  go_enter Try.func74, Try.ntmps74
  go_wp2_with (go_call (stepHalves_any _ (by omega) (by omega) _) as e w1 ⟨rfl, rfl⟩)
  go_ret
  exact ⟨rfl, rfl⟩

set_option maxHeartbeats 400000 in
theorem up_any (s h : Int) (hs : -1000 ≤ s) (hs' : s ≤ 1000) (hh : -1000 ≤ h) (hh' : h ≤ 1000) (w : World) :
    Calls Try.prog 73 #[.agg #[.int .i64 s, .int .i64 h]] w (Gives (.agg #[.int .i64 (upS s h), .int .i64 (upH s h)]) w) := by
  cases hd : downB s h
  · have hn := downB_f hd
    have e1 : upS s h = s := by unfold upS; rw [hd]; rfl
    have e2 : upH s h = h := by unfold upH; rw [hd]; rfl
    rw [e1, e2]
    clear e1 e2 hd
    have h1 : ¬ s < 0 := by omega
    by_cases h2 : s = 0
    · subst h2
      have h3 : ¬ h < 0 := by omega
      clear hn
      go_enter Try.func73, Try.ntmps73
      go_wp2
      go_returns
      exact ⟨rfl, by go_grown⟩
    · have h3 : (s == 0) = false := by simp [h2]
      clear hn
      go_enter Try.func73, Try.ntmps73
      go_wp2
      go_returns
      exact ⟨rfl, by go_grown⟩
  · have hn := downB_t hd
    have e1 : upS s h = -s := by unfold upS; rw [hd]; rfl
    have e2 : upH s h = -h := by unfold upH; rw [hd]; rfl
    rw [e1, e2]
    clear e1 e2 hd
    by_cases h2 : s = 0
    · subst h2
      have h3 : h < 0 := by omega
      clear hn
      go_enter Try.func73, Try.ntmps73
      go_wp2
      go_returns
      exact ⟨rfl, by go_grown⟩
    · have h3 : s < 0 := by omega
      clear hn
      go_enter Try.func73, Try.ntmps73
      go_wp2
      go_returns
      exact ⟨rfl, by go_grown⟩

theorem up_bd {s h : Int} (hs : -21 ≤ s) (hs' : s ≤ 21) : 0 ≤ upS s h ∧ upS s h ≤ 21 := by
  unfold upS
  cases hd : downB s h
  · have := downB_f hd
    simp
    omega
  · have := downB_t hd
    simp
    omega
theorem upH_bd {s h : Int} (hs : -99 ≤ h) (hs' : h ≤ 99) : -99 ≤ upH s h ∧ upH s h ≤ 99 := by
  unfold upH
  cases hd : downB s h
  · simp
    omega
  · simp
    omega

set_option maxHeartbeats 400000 in
theorem quality_any (s h : Int) (hs : -21 ≤ s) (hs' : s ≤ 21) (hh : -99 ≤ h) (hh' : h ≤ 99) (w : World) :
    Calls Try.prog 67 #[.agg #[.int .i64 s, .int .i64 h]] w (Gives (.int .i64 (qual s h)) w) := by
  have HQ := Lib.hid (show qual s h = upH s h - natu (upS s h) from rfl)
  obtain ⟨g0, g1⟩ := up_bd (h := h) hs hs'
  obtain ⟨g2, g3⟩ := upH_bd (s := s) hh hh'
  obtain ⟨g4, g5⟩ := natu_21 (upS s h) g0 g1
  go_enter Try.func67, Try.ntmps67
  have f1 : ∀ (x y : Value) (W : World), (Instr.field 47 (.agg #[x, y]) 1).run Try.prog W = .ok y W := fun _ _ _ => by kernel_rfl
  have f0 : ∀ (x y : Value) (W : World), (Instr.field 47 (.agg #[x, y]) 0).run Try.prog W = .ok x W := fun _ _ _ => by kernel_rfl
  have q1 : IntKind.i64.wrap (upH s h - natu (upS s h)) = upH s h - natu (upS s h) := IntWalk.i64_in _ (by omega)
  have q2 : upS s h ≤ 1000 := by omega
  go_wp2_with fail
  have C0 : (w.alloc (Obj.cells #[.int .i64 s, .int .i64 h] 47)).cell? ⟨w.heap.size, 0, none⟩ = some (.int .i64 s) := by simp
  have C1 : (w.alloc (Obj.cells #[.int .i64 s, .int .i64 h] 47)).cell? ⟨w.heap.size, 1, none⟩ = some (.int .i64 h) := by simp
  have hB : Below w.heap.size w (w.alloc (Obj.cells #[.int .i64 s, .int .i64 h] 47)) := by go_grown
  have hz : w.heap.size < (w.alloc (Obj.cells #[.int .i64 s, .int .i64 h] 47)).heap.size := by simp
  go_region_held3 (fun w' => w'.cell? ⟨w.heap.size, 0, none⟩ = some (.int .i64 s) ∧ w'.cell? ⟨w.heap.size, 1, none⟩ = some (.int .i64 h) ∧ w.heap.size < w'.heap.size ∧ Below w.heap.size w w')
    (first | exact keepS2 hb2 ‹_› | assumption | exact ⟨C0, C1, hz, hB⟩ | exact ⟨C0, C1, hz, hB.drew⟩)
    (first | (go_at_call 73; refine (up_any _ _ (by omega) (by omega) (by omega) (by omega) _).mono ?_; rintro e w2 ⟨rfl, hb2⟩) | (go_at_call 74; refine (placeHalves_any _ g0 q2 _).mono ?_; rintro e w2 ⟨rfl, rfl⟩))
  all_goals
    go_split_ands
    go_wp2
    go_ret
    exact ⟨by rw [HQ.out]; rfl, by assumption⟩

set_option maxHeartbeats 400000 in
theorem l2Quality_any (s h : Int) (hs : -21 ≤ s) (hs' : s ≤ 21) (hh : -99 ≤ h) (hh' : h ≤ 99) (w : World) :
    Calls Try.prog 63 #[.agg #[.int .i64 s, .int .i64 h]] w (Gives (.int .i64 (qual s h)) w) := by
  cases hd : downB s h
  · have hn := downB_f hd
    have HQ := Lib.hid (show qual s h = h - natu s by unfold qual upS upH; rw [hd]; rfl)
    obtain ⟨g4, g5⟩ := natu_21 s (by omega) (by omega)
    have h1 : ¬ s < 0 := by omega
    have q0 : 0 ≤ s := by omega
    have q1 : IntKind.i64.wrap (h - natu s) = h - natu s := IntWalk.i64_in _ (by omega)
    have q2 : s ≤ 1000 := by omega
    by_cases h2 : s = 0
    · subst h2
      have h3 : ¬ h < 0 := by omega
      clear hn hd
      go_enter Try.func63, Try.ntmps63
      go_wp2_with fail
      have C0 : (w.alloc (Obj.cells #[.int .i64 0, .int .i64 h] 47)).cell? ⟨w.heap.size, 0, none⟩ = some (.int .i64 0) := by simp
      have C1 : (w.alloc (Obj.cells #[.int .i64 0, .int .i64 h] 47)).cell? ⟨w.heap.size, 1, none⟩ = some (.int .i64 h) := by simp
      have hB : Below w.heap.size w (w.alloc (Obj.cells #[.int .i64 0, .int .i64 h] 47)) := by go_grown
      have hz : w.heap.size < (w.alloc (Obj.cells #[.int .i64 0, .int .i64 h] 47)).heap.size := by simp
      go_region_held3 (fun w' => w'.cell? ⟨w.heap.size, 0, none⟩ = some (.int .i64 0) ∧ w'.cell? ⟨w.heap.size, 1, none⟩ = some (.int .i64 h) ∧ w.heap.size < w'.heap.size ∧ Below w.heap.size w w')
        (first | exact keepS2 hb2 ‹_› | exact ⟨C0, C1, hz, hB⟩ | exact ⟨C0, C1, hz, hB.drew⟩)
        (first | (go_at_call 66; refine (l1Natural_any _ q0 q2 _).mono ?_; rintro e w2 ⟨rfl, hb2⟩))
      all_goals
        go_split_ands
        go_wp2
        go_ret
        exact ⟨by rw [HQ.out]; rfl, by assumption⟩
    · have h3 : (s == 0) = false := by simp [h2]
      clear hn hd h2
      go_enter Try.func63, Try.ntmps63
      go_wp2_with fail
      have C0 : (w.alloc (Obj.cells #[.int .i64 s, .int .i64 h] 47)).cell? ⟨w.heap.size, 0, none⟩ = some (.int .i64 s) := by simp
      have C1 : (w.alloc (Obj.cells #[.int .i64 s, .int .i64 h] 47)).cell? ⟨w.heap.size, 1, none⟩ = some (.int .i64 h) := by simp
      have hB : Below w.heap.size w (w.alloc (Obj.cells #[.int .i64 s, .int .i64 h] 47)) := by go_grown
      have hz : w.heap.size < (w.alloc (Obj.cells #[.int .i64 s, .int .i64 h] 47)).heap.size := by simp
      go_region_held3 (fun w' => w'.cell? ⟨w.heap.size, 0, none⟩ = some (.int .i64 s) ∧ w'.cell? ⟨w.heap.size, 1, none⟩ = some (.int .i64 h) ∧ w.heap.size < w'.heap.size ∧ Below w.heap.size w w')
        (first | exact keepS2 hb2 ‹_› | exact ⟨C0, C1, hz, hB⟩ | exact ⟨C0, C1, hz, hB.drew⟩)
        (first | (go_at_call 66; refine (l1Natural_any _ q0 q2 _).mono ?_; rintro e w2 ⟨rfl, hb2⟩))
      all_goals
        go_split_ands
        go_wp2
        go_ret
        exact ⟨by rw [HQ.out]; rfl, by assumption⟩
  · have hn := downB_t hd
    have HQ := Lib.hid (show qual s h = -h - natu (-s) by unfold qual upS upH; rw [hd]; rfl)
    obtain ⟨g4, g5⟩ := natu_21 (-s) (by omega) (by omega)
    have q0 : 0 ≤ -s := by omega
    have q1 : IntKind.i64.wrap (-h - natu (-s)) = -h - natu (-s) := IntWalk.i64_in _ (by omega)
    have q2 : -s ≤ 1000 := by omega
    have q3 : IntKind.i64.wrap (-h) = -h := IntWalk.i64_in _ (by omega)
    have q4 : IntKind.i64.wrap (-s) = -s := IntWalk.i64_in _ (by omega)
    by_cases h2 : s = 0
    · subst h2
      have e0 : (-(0 : Int)) = 0 := rfl
      rw [e0] at HQ q0 q1 q2 q4
      clear e0 g4 g5
      have h3 : h < 0 := by omega
      clear hn hd
      go_enter Try.func63, Try.ntmps63
      go_wp2_with fail
      have C0 : (w.alloc (Obj.cells #[.int .i64 0, .int .i64 h] 47)).cell? ⟨w.heap.size, 0, none⟩ = some (.int .i64 0) := by simp
      have C1 : (w.alloc (Obj.cells #[.int .i64 0, .int .i64 h] 47)).cell? ⟨w.heap.size, 1, none⟩ = some (.int .i64 h) := by simp
      have hB : Below w.heap.size w (w.alloc (Obj.cells #[.int .i64 0, .int .i64 h] 47)) := by go_grown
      have hz : w.heap.size < (w.alloc (Obj.cells #[.int .i64 0, .int .i64 h] 47)).heap.size := by simp
      go_region_held3 (fun w' => w'.cell? ⟨w.heap.size, 0, none⟩ = some (.int .i64 0) ∧ w'.cell? ⟨w.heap.size, 1, none⟩ = some (.int .i64 h) ∧ w.heap.size < w'.heap.size ∧ Below w.heap.size w w')
        (first | exact keepS2 hb2 ‹_› | exact ⟨C0, C1, hz, hB⟩ | exact ⟨C0, C1, hz, hB.drew⟩)
        (first | (go_at_call 66; refine (l1Natural_any _ q0 q2 _).mono ?_; rintro e w2 ⟨rfl, hb2⟩))
      all_goals
        go_split_ands
        go_wp2
        go_ret
        exact ⟨by rw [HQ.out]; rfl, by assumption⟩
    · have h3 : s < 0 := by omega
      clear hn hd h2
      go_enter Try.func63, Try.ntmps63
      go_wp2_with fail
      have C0 : (w.alloc (Obj.cells #[.int .i64 s, .int .i64 h] 47)).cell? ⟨w.heap.size, 0, none⟩ = some (.int .i64 s) := by simp
      have C1 : (w.alloc (Obj.cells #[.int .i64 s, .int .i64 h] 47)).cell? ⟨w.heap.size, 1, none⟩ = some (.int .i64 h) := by simp
      have hB : Below w.heap.size w (w.alloc (Obj.cells #[.int .i64 s, .int .i64 h] 47)) := by go_grown
      have hz : w.heap.size < (w.alloc (Obj.cells #[.int .i64 s, .int .i64 h] 47)).heap.size := by simp
      go_region_held3 (fun w' => w'.cell? ⟨w.heap.size, 0, none⟩ = some (.int .i64 s) ∧ w'.cell? ⟨w.heap.size, 1, none⟩ = some (.int .i64 h) ∧ w.heap.size < w'.heap.size ∧ Below w.heap.size w w')
        (first | exact keepS2 hb2 ‹_› | exact ⟨C0, C1, hz, hB⟩ | exact ⟨C0, C1, hz, hB.drew⟩)
        (first | (go_at_call 66; refine (l1Natural_any _ q0 q2 _).mono ?_; rintro e w2 ⟨rfl, hb2⟩))
      all_goals
        go_split_ands
        go_wp2
        go_ret
        exact ⟨by rw [HQ.out]; rfl, by assumption⟩
theorem intB_t {s h : Int} (hh : intB s h = true) : -21 ≤ s ∧ s ≤ 21 ∧ -99 ≤ h ∧ h ≤ 99 ∧ -3 ≤ qual s h ∧ qual s h ≤ 3 := by
  unfold intB at hh
  rw [Bool.and_eq_true, Bool.and_eq_true] at hh
  obtain ⟨⟨h1, h2⟩, h3⟩ := hh
  have g1 := inR_t h1
  have g2 := inR_t h2
  have g3 := inR_t h3
  omega
theorem intB_mk {s h : Int} (hh : -21 ≤ s ∧ s ≤ 21 ∧ -99 ≤ h ∧ h ≤ 99 ∧ -3 ≤ qual s h ∧ qual s h ≤ 3) : intB s h = true := by
  unfold intB inR
  simp only [Bool.and_eq_true, decide_eq_true_eq]
  omega
theorem intB_no {s h : Int} (hh : ¬ (-21 ≤ s ∧ s ≤ 21 ∧ -99 ≤ h ∧ h ≤ 99 ∧ -3 ≤ qual s h ∧ qual s h ≤ 3)) : intB s h = false := by
  cases hi : intB s h
  · rfl
  · exact absurd (intB_t hi) hh
/-- A valid interval has at most 39 half tones either way. -/
theorem intB_60 {s h : Int} (h1 : -21 ≤ s) (h2 : s ≤ 21) (h3 : -3 ≤ qual s h) (h4 : qual s h ≤ 3) : -60 ≤ h ∧ h ≤ 60 := by
  obtain ⟨g0, g1⟩ := up_bd (h := h) h1 h2
  have g := natu_21 (upS s h) g0 g1
  unfold qual at h3 h4
  have : upH s h = h ∨ upH s h = -h := by unfold upH; cases downB s h <;> simp
  omega
theorem intB_spec (s h : Int) : (inR s (-21) 21 && inR h (-60) 60 && inR (qual s h) (-3) 3) = intB s h := by
  cases hi : intB s h
  · rw [Bool.eq_false_iff]
    intro hh
    rw [Bool.and_eq_true, Bool.and_eq_true] at hh
    obtain ⟨⟨h1, h2⟩, h3⟩ := hh
    have g1 := inR_t h1
    have g2 := inR_t h2
    have g3 := inR_t h3
    rw [intB_mk (by omega)] at hi
    cases hi
  · have g := intB_t hi
    have g6 := intB_60 (h := h) g.1 g.2.1 g.2.2.2.2.1 g.2.2.2.2.2
    unfold inR
    simp only [Bool.and_eq_true, decide_eq_true_eq]
    omega

set_option maxHeartbeats 400000 in
theorem intervalValid_any (s h : Int) (w : World) :
    Calls Try.prog 55 #[.agg #[.int .i64 s, .int .i64 h]] w (Gives (.bool (intB s h)) w) := by
  cases h1 : inR s (-21) 21
  · go_enter Try.func55, Try.ntmps55
    go_wp2_with (go_call (within_any _ _ _ _) as e w1 ⟨rfl, rfl⟩)
    go_ret
    exact ⟨by simp [intB, h1], by go_grown⟩
  cases h2 : inR h (-99) 99
  · go_enter Try.func55, Try.ntmps55
    go_wp2_with (go_call (within_any _ _ _ _) as e w1 ⟨rfl, rfl⟩)
    go_ret
    exact ⟨by simp [intB, h1, h2], by go_grown⟩
  obtain ⟨b0, b1⟩ := inR_t h1
  obtain ⟨b2, b3⟩ := inR_t h2
  cases h3 : inR (qual s h) (-3) 3
  all_goals
    go_enter Try.func55, Try.ntmps55
    go_wp2_with (first | go_call (within_any _ _ _ _) as e w1 ⟨rfl, rfl⟩ | (go_call (quality_any _ _ b0 b1 b2 b3 _) as e w1 ⟨rfl, hb⟩; obtain ⟨hB, hz, hc, hf⟩ := after (w := w) (n := w.heap.size) hb (by go_grown) (by go_size) (by go_size)))
    go_ret
    exact ⟨by simp [intB, h1, h2, h3], hB⟩

set_option maxHeartbeats 400000 in
theorem specIntervalValid_any (s h : Int) (w : World) :
    Calls Try.prog 53 #[.agg #[.int .i64 s, .int .i64 h]] w (Gives (.bool (intB s h)) w) := by
  rw [← intB_spec]
  cases h1 : inR s (-21) 21
  · go_enter Try.func53, Try.ntmps53
    go_wp2_with (go_call (l1In_any _ _ _ _) as e w1 ⟨rfl, rfl⟩)
    go_ret
    exact ⟨rfl, by go_grown⟩
  cases h2 : inR h (-60) 60
  · go_enter Try.func53, Try.ntmps53
    go_wp2_with (go_call (l1In_any _ _ _ _) as e w1 ⟨rfl, rfl⟩)
    go_ret
    exact ⟨rfl, by go_grown⟩
  obtain ⟨b0, b1⟩ := inR_t h1
  obtain ⟨b2, b3⟩ : -99 ≤ h ∧ h ≤ 99 := by have := inR_t h2; omega
  cases h3 : inR (qual s h) (-3) 3
  all_goals
    go_enter Try.func53, Try.ntmps53
    go_wp2_with (first | go_call (l1In_any _ _ _ _) as e w1 ⟨rfl, rfl⟩ | (go_call (l2Quality_any _ _ b0 b1 b2 b3 _) as e w1 ⟨rfl, hb⟩; obtain ⟨hB, hz, hc, hf⟩ := after (w := w) (n := w.heap.size) hb (by go_grown) (by go_size) (by go_size)))
    go_ret
    exact ⟨rfl, hB⟩
end Go.Proofs.Ytmkkhbplfedpoaa

/- The walks of the laws' small functions on slices of pitches: equal, marked, held. Conditions: as stated. -/
import Derived.Test.YtojkbeffhjcaiaaRo
import Derived.Deep.RegionHeld3
import Derived.Deep.DeepCutAuto
namespace Go.Proofs.Ytojkbeffhjcaiaa
open Go.RowKit

theorem only_setCell_ {a w : World} {g o : Nat} (h : a.grownBy w (some g)) (u : Value) : a.grownBy (w.setCell ⟨g, o, none⟩ u) (some g) :=
  ⟨h.os, h.tape, h.output, by simpa [World.setCell] using h.size, fun i hi hne => (Below.heap_setCell w _ u i (by
    rintro rfl
    exact hne rfl)).trans (h.block i hi hne)⟩

/-- Numbers as cells. -/
def ic (f : Nat → Int) (i : Nat) : Value := .int .i64 (f i)
theorem at3 {w : World} {g off n k : Nat} {f : Nat → Int} (hc : ∀ i, i < n * 3 → w.cell? ⟨g, off + i, none⟩ = some (ic f i)) (hk : k < n) :
    w.cell? ⟨g, off + k * 3, none⟩ = some (.int .i64 (f (k * 3))) ∧ w.cell? ⟨g, off + k * 3 + 1, none⟩ = some (.int .i64 (f (k * 3 + 1))) ∧ w.cell? ⟨g, off + k * 3 + 2, none⟩ = some (.int .i64 (f (k * 3 + 2))) :=
  ⟨hc _ (by omega), by have := hc (k * 3 + 1) (by omega); rwa [← Nat.add_assoc] at this, by have := hc (k * 3 + 2) (by omega); rwa [← Nat.add_assoc] at this⟩

set_option maxHeartbeats 1000000 in
theorem heldPitchS_any (a : Option Addr) (n cap : Nat) (k0 : Int) (w : World) (h : Sees w a (n * 3) (ic fun i => k0 + i)) (hn : n ≤ 1000000) (h0 : 0 ≤ k0) (h1 : k0 ≤ 1000000) :
    Calls Try.prog 33 #[.slice a n cap, .int .i64 k0] w fun e w' => e = .returned (.int .i64 (k0 + (n * 3 : Nat))) ∧ w = w' := by
  have HS := Lib.hid h
  clear h
  go_enter Try.func33, Try.ntmps33
  go_wp2_with fail
  go_loop [1, 5] (fun kv i => ∃ k : Nat, k ≤ n ∧ i = .int .i64 k ∧ kv = .int .i64 (k0 + (k * 3 : Nat))) (fun _ i => n - (intOf i).toNat)
  case atStart => exact ⟨0, Nat.zero_le _, rfl, by simp⟩
  case round =>
    obtain ⟨k, hk, rfl, rfl⟩ := hrel
    by_cases hlt : k < n
    · obtain ⟨g, off, rfl, hc⟩ := HS.out (by omega)
      obtain ⟨c0, c1, c2⟩ := at3 hc hlt
      clear hc
      go_wp2_with fail
      go_round
      case rel => exact ⟨k + 1, by omega, by go_num, by congr 1; omega⟩
      case measure => simp [intOf]; omega
    · obtain rfl : k = n := by omega
      go_wp2
      go_ret
      exact ⟨rfl, rfl⟩

theorem Owns.grown {w w' : World} {B : Nat} {a : Option Addr} {N : Nat} {c : Nat → Value} {row : Option Nat} (h : Owns w B a N c) (hg : w.grownBy w' row) (hne : ∀ g off, a = some ⟨g, off, Option.none⟩ → some g ≠ row) : Owns w' B a N c := fun h0 => by
  obtain ⟨g, off, e, h1, hc⟩ := h h0
  exact ⟨g, off, e, h1, fun i hi => ⟨(hg.cell_far _ (cell_lt (hc i hi).1) (hne _ _ e)).trans (hc i hi).1, (hg.frozen_far _ (cell_lt (hc i hi).1) (hne _ _ e)).trans (hc i hi).2⟩⟩

/-- How far the marks have come. -/
def Marked (w wr : World) (g off N j : Nat) (k0 : Int) (c : Nat → Value) : Prop :=
  w.grownBy wr (some g) ∧ ∀ i, i < N → wr.cell? ⟨g, off + i, none⟩ = some (if i < j then .int .i64 (k0 + i) else c i) ∧ wr.frozen? ⟨g, off + i, none⟩ = false
theorem Marked.start {w : World} {g off N : Nat} {k0 : Int} {c : Nat → Value} (h : ∀ i, i < N → w.cell? ⟨g, off + i, none⟩ = some (c i) ∧ w.frozen? ⟨g, off + i, none⟩ = false) : Marked w w g off N 0 k0 c :=
  ⟨World.grownBy.refl w _, fun i hi => by simpa using h i hi⟩
theorem Marked.step {w wr : World} {g off N j : Nat} {k0 : Int} {c : Nat → Value} (h : Marked w wr g off N j k0 c) (hj : j < N) : Marked w (wr.setCell ⟨g, off + j, none⟩ (.int .i64 (k0 + j))) g off N (j + 1) k0 c := by
  refine ⟨only_setCell_ h.1 _, fun i hi => ?_⟩
  obtain ⟨h1, h2⟩ := h.2 i hi
  have hf : (wr.setCell ⟨g, off + j, none⟩ (.int .i64 (k0 + j))).frozen? ⟨g, off + i, none⟩ = false := by simpa using h2
  by_cases hij : i = j
  · subst hij
    refine ⟨?_, hf⟩
    rw [if_pos (by omega)]
    simp [go_sem, h1]
  · refine ⟨?_, hf⟩
    rw [World.cell?_setCell_other _ _ _ _ (fun e => hij (by injection e; omega)), h1]
    by_cases hlt : i < j
    · rw [if_pos hlt, if_pos (by omega)]
    · rw [if_neg hlt, if_neg (by omega)]
theorem Marked.done {w wr : World} {B g off N : Nat} {k0 : Int} {c : Nat → Value} (h : Marked w wr g off N N k0 c) (hB : B ≤ g) : Owns wr B (some ⟨g, off, none⟩) N (ic fun i => k0 + i) := fun _ =>
  ⟨g, off, rfl, hB, fun i hi => by
    obtain ⟨h1, h2⟩ := h.2 i hi
    rw [if_pos hi] at h1
    exact ⟨h1, h2⟩⟩

/-- What marking leaves: the marks; nothing but the row's block has turned. -/
def MarkPost (w : World) (B : Nat) (a : Option Addr) (N : Nat) (k0 : Int) (e : Ending) (w' : World) : Prop :=
  e = .returned (.int .i64 (k0 + N)) ∧ Owns w' B a N (ic fun i => k0 + i) ∧ Below B w w'
theorem Marked.below {w wr : World} {B g off N j : Nat} {k0 : Int} {c : Nat → Value} (h : Marked w wr g off N j k0 c) (hB : B ≤ g) (hg : g < w.heap.size) : Below B w wr :=
  ⟨h.1.os, h.1.tape, h.1.output, h.1.size, fun i hi => h.1.block i (by omega) (fun e => by injection e; omega)⟩

theorem mark3 {w wr : World} {g off N k : Nat} {k0 : Int} {c : Nat → Value}
    (h : Marked w (((wr.setCell ⟨g, off + k * 3, none⟩ (.int .i64 (k0 + (k * 3 : Nat)))).setCell ⟨g, off + (k * 3 + 1), none⟩ (.int .i64 (k0 + (k * 3 + 1 : Nat)))).setCell ⟨g, off + (k * 3 + 1 + 1), none⟩ (.int .i64 (k0 + (k * 3 + 1 + 1 : Nat)))) g off N (k * 3 + 1 + 1 + 1) k0 c) :
    Marked w (((wr.setCell ⟨g, off + k * 3, none⟩ (.int .i64 (k0 + (k : Int) * 3))).setCell ⟨g, off + k * 3 + 1, none⟩ (.int .i64 (k0 + (k : Int) * 3 + 1))).setCell ⟨g, off + k * 3 + 2, none⟩ (.int .i64 (k0 + (k : Int) * 3 + 1 + 1))) g off N ((k + 1) * 3) k0 c := by
  rw [show (k0 + ((k * 3 : Nat) : Int)) = k0 + (k : Int) * 3 by omega, show (k0 + ((k * 3 + 1 : Nat) : Int)) = k0 + (k : Int) * 3 + 1 by omega, show (k0 + ((k * 3 + 1 + 1 : Nat) : Int)) = k0 + (k : Int) * 3 + 1 + 1 by omega,
    show k * 3 + 1 + 1 + 1 = (k + 1) * 3 by omega] at h
  exact h

set_option maxHeartbeats 1000000 in
theorem markPitchS_any (B : Nat) (a : Option Addr) (n cap : Nat) (k0 : Int) (c : Nat → Value) (w : World) (h : Owns w B a (n * 3) c) (hn : n ≤ 1000000) (h0 : 0 ≤ k0) (h1 : k0 ≤ 1000000) :
    Calls Try.prog 32 #[.slice a n cap, .int .i64 k0] w (MarkPost w B a (n * 3) k0) := by
  by_cases hn0 : n = 0
  · subst hn0
    go_enter Try.func32, Try.ntmps32
    go_wp2_with fail
    refine wp_loop_rounds 1 ?_
    rw [rounds_succ]
    go_wp2
    go_ret
    exact ⟨by simp, Owns.none _ _ _ _, Below.refl _ _⟩
  obtain ⟨g, off, rfl, hB, hc⟩ := h (by omega)
  have hg : g < w.heap.size := cell_lt (hc 0 (by omega)).1
  have M0 := Marked.start (k0 := k0) hc
  clear hc
  go_enter Try.func32, Try.ntmps32
  go_wp2_with fail
  go_loopw [1, 5] (fun kv i wr => ∃ k : Nat, k ≤ n ∧ i = .int .i64 k ∧ kv = .int .i64 (k0 + (k * 3 : Nat)) ∧ Marked w wr g off (n * 3) (k * 3) k0 c) (fun _ i _ => n - (intOf i).toNat)
  case atStart => exact ⟨0, Nat.zero_le _, rfl, by simp, M0⟩
  case round =>
    clear M0
    obtain ⟨k, hk, rfl, rfl, M⟩ := hrel
    by_cases hlt : k < n
    · obtain ⟨c0, f0⟩ := M.2 (k * 3) (by omega)
      obtain ⟨c1, f1⟩ := M.2 (k * 3 + 1) (by omega)
      obtain ⟨c2, f2⟩ := M.2 (k * 3 + 2) (by omega)
      have M1 := ((M.step (by omega)).step (by omega)).step (by omega)
      rw [← Nat.add_assoc] at c1 f1 c2 f2
      have HM := Lib.hid M1
      clear M M1
      go_wp2_with fail
      go_roundw
      case rel => exact ⟨k + 1, by omega, by go_num, by congr 1; omega, mark3 HM.out⟩
      case measure => simp [intOf]; omega
    · obtain rfl : k = n := by omega
      go_wp2
      go_ret
      exact ⟨rfl, M.done hB, M.below hB hg⟩

set_option maxHeartbeats 1000000 in
theorem eqPitchS_any (a a' : Option Addr) (n cap cap' : Nat) (f : Nat → Int) (w : World) (h : Sees w a (n * 3) (ic f)) (h' : Sees w a' (n * 3) (ic f)) (hn : n ≤ 1000000) :
    Calls Try.prog 31 #[.slice a n cap, .slice a' n cap'] w (Gives (.bool true) w) := by
  have HS := Lib.hid h
  have HT := Lib.hid h'
  clear h h'
  go_enter Try.func31, Try.ntmps31
  go_wp2_with fail
  go_loopw [5] (fun i wr => ∃ k : Nat, k ≤ n ∧ i = .int .i64 k ∧ Below w.heap.size w wr) (fun i _ => n - (intOf i).toNat)
  case atStart => exact ⟨0, Nat.zero_le _, rfl, Below.refl _ _⟩
  case round =>
    obtain ⟨k, hk, rfl, hB⟩ := hrel
    have hsz := hB.size
    by_cases hlt : k < n
    · obtain ⟨g, off, rfl, hc⟩ := (HS.out.pure hB) (by omega)
      obtain ⟨c0, c1, c2⟩ := at3 hc hlt
      clear hc
      obtain ⟨g', off', rfl, hc⟩ := (HT.out.pure hB) (by omega)
      obtain ⟨d0, d1, d2⟩ := at3 hc hlt
      clear hc
      have l0 := cell_lt c0
      have l1 := cell_lt d0
      have hi0 : (0 : Int) ≤ (k : Int) := by omega
      have hi1 : (k : Int) < (n : Int) := by omega
      go_upto_region 6 with fail
      go_cut [26] (fun v wc => v = .bool false ∧ Below w.heap.size w wc)
      case first =>
        go_region_held3 (fun w' => w'.cell? ⟨g, off + k * 3, none⟩ = some (.int .i64 (f (k * 3))) ∧ w'.cell? ⟨g, off + k * 3 + 1, none⟩ = some (.int .i64 (f (k * 3 + 1))) ∧ w'.cell? ⟨g, off + k * 3 + 2, none⟩ = some (.int .i64 (f (k * 3 + 2))) ∧ w'.cell? ⟨g', off' + k * 3, none⟩ = some (.int .i64 (f (k * 3))) ∧ w'.cell? ⟨g', off' + k * 3 + 1, none⟩ = some (.int .i64 (f (k * 3 + 1))) ∧ w'.cell? ⟨g', off' + k * 3 + 2, none⟩ = some (.int .i64 (f (k * 3 + 2))) ∧ Below w.heap.size w w')
          (first | exact ⟨c0, c1, c2, d0, d1, d2, hB.drew⟩ | exact ⟨cell_pure (W := wr.drew) hbc l0 c0, cell_pure (W := wr.drew) hbc l0 c1, cell_pure (W := wr.drew) hbc l0 c2, cell_pure (W := wr.drew) hbc l1 d0, cell_pure (W := wr.drew) hbc l1 d1, cell_pure (W := wr.drew) hbc l1 d2, below_pure hB.drew hbc⟩)
          (first | (go_at_call 24; refine (eqPitch_same _ _ _ _).mono ?_; rintro e w2 ⟨rfl, hbc⟩))
        all_goals
          go_split_ands
          go_wp2_with fail
          go_meet
          exact ⟨rfl, by assumption⟩
      case rest =>
        clear c0 c1 c2 d0 d1 d2 l0 l1 hB hsz
        obtain ⟨rfl, hB⟩ := hcut
        go_wp2_with fail
        go_roundw
        case rel => exact ⟨k + 1, by omega, by go_num, hB⟩
        case measure => simp [intOf]; omega
    · obtain rfl : k = n := by omega
      go_wp2
      go_ret
      exact ⟨rfl, hB⟩

end Go.Proofs.Ytojkbeffhjcaiaa

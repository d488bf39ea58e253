/- The walks of the laws' markNoteS and heldNoteS, from the mark 1 on. Conditions: as stated. -/
import Derived.Test.YtmkkhbplfedpoaaNo
namespace Go.Proofs.Ytmkkhbplfedpoaa
open Go.RowKit

/-- The marks of a row of notes. -/
def markN (i : Nat) : Value := if i % 6 = 0 then .bool false else if i % 6 = 5 then .bool true else .int .i64 (1 + i)
theorem mark_at (k : Nat) : markN (k * 6) = .bool false ∧ markN (k * 6 + 1) = .int .i64 (1 + (k : Int) * 6 + 1) ∧ markN (k * 6 + 2) = .int .i64 (1 + (k : Int) * 6 + 1 + 1) ∧ markN (k * 6 + 3) = .int .i64 (1 + (k : Int) * 6 + 1 + 1 + 1) ∧ markN (k * 6 + 4) = .int .i64 (1 + (k : Int) * 6 + 1 + 1 + 1 + 1) ∧ markN (k * 6 + 5) = .bool true := by
  unfold markN
  refine ⟨if_pos (by omega), ?_, ?_, ?_, ?_, ?_⟩
  · rw [if_neg (by omega), if_neg (by omega)]; congr 1
  · rw [if_neg (by omega), if_neg (by omega)]; congr 1
  · rw [if_neg (by omega), if_neg (by omega)]; congr 1
  · rw [if_neg (by omega), if_neg (by omega)]; congr 1
  · rw [if_neg (by omega), if_pos (by omega)]

/-- How far the marks have come. -/
def MarkedN (w wr : World) (g off N j : Nat) (c : Nat → Value) : Prop :=
  w.grownBy wr (some g) ∧ ∀ i, i < N → (∃ v, wr.cell? ⟨g, off + i, none⟩ = some v ∧ (i < j → v = markN i) ∧ (¬ i < j → v = c i)) ∧ wr.frozen? ⟨g, off + i, none⟩ = false
theorem MarkedN.start {w : World} {g off N : Nat} {c : Nat → Value} (h : ∀ i, i < N → w.cell? ⟨g, off + i, none⟩ = some (c i) ∧ w.frozen? ⟨g, off + i, none⟩ = false) : MarkedN w w g off N 0 c :=
  ⟨World.grownBy.refl w _, fun i hi => ⟨⟨c i, (h i hi).1, fun hh => absurd hh (Nat.not_lt_zero _), fun _ => rfl⟩, (h i hi).2⟩⟩
theorem only_setCell_ {a w : World} {g o : Nat} (h : a.grownBy w (some g)) (u : Value) : a.grownBy (w.setCell ⟨g, o, none⟩ u) (some g) :=
  ⟨h.os, h.tape, h.output, by simpa [World.setCell] using h.size, fun i hi hne => (Below.heap_setCell w _ u i (by
    rintro rfl
    exact hne rfl)).trans (h.block i hi hne)⟩
theorem MarkedN.step {w wr : World} {g off N j : Nat} {c : Nat → Value} (h : MarkedN w wr g off N j c) : MarkedN w (wr.setCell ⟨g, off + j, none⟩ (markN j)) g off N (j + 1) c := by
  refine ⟨only_setCell_ h.1 _, fun i hi => ?_⟩
  obtain ⟨⟨v, hv, h1, h2⟩, hf⟩ := h.2 i hi
  refine ⟨?_, by simpa using hf⟩
  by_cases hij : i = j
  · subst hij
    exact ⟨markN i, by simp [go_sem, hv], fun _ => rfl, fun hn => absurd (Nat.lt_succ_self i) hn⟩
  · exact ⟨v, (World.cell?_setCell_other _ _ _ _ (fun e => hij (by injection e; omega))).trans hv, fun hlt => h1 (by omega), fun hn => h2 (by omega)⟩
theorem MarkedN.done {w wr : World} {B g off N : Nat} {c : Nat → Value} (h : MarkedN w wr g off N N c) (hB : B ≤ g) : Owns wr B (some ⟨g, off, none⟩) N markN := fun _ =>
  ⟨g, off, rfl, hB, fun i hi => by
    obtain ⟨⟨v, hv, h1, h2⟩, hf⟩ := h.2 i hi
    exact ⟨by rw [hv, h1 hi], hf⟩⟩
theorem MarkedN.below {w wr : World} {B g off N j : Nat} {c : Nat → Value} (h : MarkedN w wr g off N j c) (hB : B ≤ g) (hg : g < w.heap.size) : Below B w wr :=
  ⟨h.1.os, h.1.tape, h.1.output, h.1.size, fun i hi => h.1.block i (by omega) (fun e => by injection e; omega)⟩
theorem MarkedN.six {w wr : World} {g off N k : Nat} {c : Nat → Value} (h : MarkedN w wr g off N (k * 6) c) :
    MarkedN w ((((((wr.setCell ⟨g, off + k * 6, none⟩ (.bool false)).setCell ⟨g, off + k * 6 + 1, none⟩ (.int .i64 (1 + (k : Int) * 6 + 1))).setCell ⟨g, off + k * 6 + 2, none⟩ (.int .i64 (1 + (k : Int) * 6 + 1 + 1))).setCell ⟨g, off + k * 6 + 3, none⟩ (.int .i64 (1 + (k : Int) * 6 + 1 + 1 + 1))).setCell ⟨g, off + k * 6 + 4, none⟩ (.int .i64 (1 + (k : Int) * 6 + 1 + 1 + 1 + 1))).setCell ⟨g, off + k * 6 + 5, none⟩ (.bool true)) g off N ((k + 1) * 6) c := by
  have h6 := h.step.step.step.step.step.step
  obtain ⟨e0, e1, e2, e3, e4, e5⟩ := mark_at k
  rw [e0, e1, e2, e3, e4, e5] at h6
  rw [show (k + 1) * 6 = k * 6 + 1 + 1 + 1 + 1 + 1 + 1 by omega]
  exact h6

theorem Sees.below {w w' : World} {B : Nat} {a : Option Addr} {N : Nat} {c : Nat → Value} (h : Sees w a N c) (hb : Below B w w') (hlt : ∀ g off, a = some ⟨g, off, Option.none⟩ → 0 < N → g < B) : Sees w' a N c := fun h0 => by
  obtain ⟨g, off, e, hc⟩ := h h0
  exact ⟨g, off, e, fun i hi => (hb.cell (p := ⟨g, off + i, Option.none⟩) (hlt g off e h0)).trans (hc i hi)⟩
theorem Sees.lt {w : World} {a : Option Addr} {N : Nat} {c : Nat → Value} (h : Sees w a N c) : ∀ g off, a = some ⟨g, off, Option.none⟩ → 0 < N → g < w.heap.size := fun g off e h0 => by
  obtain ⟨g', off', e', hc⟩ := h h0
  rw [e] at e'
  obtain ⟨rfl, rfl⟩ : g = g' ∧ off = off' := by injection e' with e1; injection e1 with e2 e3 e4; exact ⟨e2, e3⟩
  exact cell_lt (hc 0 h0)

/-- What lies in a block of its own, above a row, is kept. -/
def KeptAbove (w w' : World) (a : Option Addr) (n : Nat) : Prop :=
  ∀ B', (∀ g off, a = some ⟨g, off, none⟩ → 0 < n → g < B') → ∀ r N c, Owns w B' r N c → Owns w' B' r N c
theorem KeptAbove.refl (w : World) (a : Option Addr) (n : Nat) : KeptAbove w w a n := fun _ _ _ _ _ h => h
theorem KeptAbove.of {w w' : World} {g off n : Nat} (h : w.grownBy w' (some g)) (hn : 0 < n) : KeptAbove w w' (some ⟨g, off, none⟩) n := fun B' hB r N c ho h0 => by
  have hg := hB g off rfl hn
  obtain ⟨b, o, e, hb, hc⟩ := ho h0
  refine ⟨b, o, e, hb, fun i hi => ?_⟩
  obtain ⟨h1, h2⟩ := hc i hi
  have hk := h.block b (cell_lt h1) (fun e => by injection e; omega)
  exact ⟨(World.cell?_of_block (a := ⟨b, o + i, none⟩) hk).trans h1, (World.frozen?_of_block (a := ⟨b, o + i, none⟩) hk).trans h2⟩
/-- What marking leaves: the marks; below B nothing has turned, nor what lies above the row. -/
def MarkPostN (w : World) (B : Nat) (a : Option Addr) (n : Nat) (e : Ending) (w' : World) : Prop :=
  e = .returned (.int .i64 (1 + (n : Int) * 6)) ∧ Owns w' B a (n * 6) markN ∧ Below B w w' ∧ KeptAbove w w' a n

set_option maxHeartbeats 2000000 in
theorem markNoteS_any (B : Nat) (a : Option Addr) (n cap : Nat) (c : Nat → Value) (w : World) (h : Owns w B a (n * 6) c) (hn : n ≤ 10000000) :
    Calls Try.prog 31 #[.slice a n cap, .int .i64 1] w (MarkPostN w B a n) := by
  by_cases hn0 : n = 0
  · subst hn0
    go_enter Try.func31, Try.ntmps31
    go_wp2_with fail
    refine wp_loop_rounds 1 ?_
    rw [rounds_succ]
    go_wp2
    go_ret
    exact ⟨by simp, Owns.none _ _ _ _, Below.refl _ _, KeptAbove.refl _ _ _⟩
  obtain ⟨g, off, rfl, hB, hc⟩ := h (by omega)
  have hg : g < w.heap.size := cell_lt (hc 0 (by omega)).1
  have M0 := MarkedN.start hc
  clear hc h
  go_enter Try.func31, Try.ntmps31
  go_wp2_with fail
  go_loopw [1, 5] (fun kv i wr => ∃ k : Nat, k ≤ n ∧ i = .int .i64 k ∧ kv = .int .i64 (1 + (k : Int) * 6) ∧ MarkedN w wr g off (n * 6) (k * 6) c) (fun _ i _ => n - (intOf i).toNat)
  case atStart => exact ⟨0, Nat.zero_le _, rfl, rfl, M0⟩
  case round =>
    clear M0
    obtain ⟨k, hk, rfl, rfl, M⟩ := hrel
    by_cases hlt : k < n
    · obtain ⟨⟨v0, c0, -⟩, f0⟩ := M.2 (k * 6) (by omega)
      obtain ⟨⟨v1, c1, -⟩, f1⟩ := M.2 (k * 6 + 1) (by omega)
      obtain ⟨⟨v2, c2, -⟩, f2⟩ := M.2 (k * 6 + 2) (by omega)
      obtain ⟨⟨v3, c3, -⟩, f3⟩ := M.2 (k * 6 + 3) (by omega)
      obtain ⟨⟨v4, c4, -⟩, f4⟩ := M.2 (k * 6 + 4) (by omega)
      obtain ⟨⟨v5, c5, -⟩, f5⟩ := M.2 (k * 6 + 5) (by omega)
      rw [← Nat.add_assoc] at c1 f1 c2 f2 c3 f3 c4 f4 c5 f5
      have HM := Lib.hid M.six
      clear M
      have t0 : ((1 + (k : Int) * 6) % 3 == 0) = false := by simp; omega
      have t1 : ((1 + (k : Int) * 6 + 1 + 1 + 1 + 1 + 1) % 3 == 0) = true := by simp; omega
      go_wp2_with fail
      go_roundw
      case rel => exact ⟨k + 1, by omega, by go_num, by congr 1; omega, HM.out⟩
      case measure => simp [intOf]; omega
    · obtain rfl : k = n := by omega
      go_wp2
      go_ret
      exact ⟨rfl, M.done hB, M.below hB hg, KeptAbove.of M.1 (by omega)⟩

set_option maxHeartbeats 2000000 in
theorem heldNoteS_any (a : Option Addr) (n cap : Nat) (w : World) (h : Sees w a (n * 6) markN) (hn : n ≤ 10000000) :
    Calls Try.prog 32 #[.slice a n cap, .int .i64 1] w fun e w' => e = .returned (.int .i64 (1 + (n : Int) * 6)) ∧ w = w' := by
  have HS := Lib.hid h
  clear h
  go_enter Try.func32, Try.ntmps32
  go_wp2_with fail
  go_loop [1, 5] (fun kv i => ∃ k : Nat, k ≤ n ∧ i = .int .i64 k ∧ kv = .int .i64 (1 + (k : Int) * 6)) (fun _ i => n - (intOf i).toNat)
  case atStart => exact ⟨0, Nat.zero_le _, rfl, rfl⟩
  case round =>
    obtain ⟨k, hk, rfl, rfl⟩ := hrel
    by_cases hlt : k < n
    · obtain ⟨g, off, rfl, hc⟩ := HS.out (by omega)
      obtain ⟨e0, e1, e2, e3, e4, e5⟩ := mark_at k
      have c0 := hc (k * 6) (by omega)
      have c1 := hc (k * 6 + 1) (by omega)
      have c2 := hc (k * 6 + 2) (by omega)
      have c3 := hc (k * 6 + 3) (by omega)
      have c4 := hc (k * 6 + 4) (by omega)
      have c5 := hc (k * 6 + 5) (by omega)
      rw [e0] at c0
      rw [e1, ← Nat.add_assoc] at c1
      rw [e2, ← Nat.add_assoc] at c2
      rw [e3, ← Nat.add_assoc] at c3
      rw [e4, ← Nat.add_assoc] at c4
      rw [e5, ← Nat.add_assoc] at c5
      clear hc e0 e1 e2 e3 e4 e5
      have t0 : ((1 + (k : Int) * 6) % 3 == 0) = false := by simp; omega
      have t1 : ((1 + (k : Int) * 6 + 1 + 1 + 1 + 1 + 1) % 3 == 0) = true := by simp; omega
      go_wp2_with fail
      go_round
      case rel => exact ⟨k + 1, by omega, by go_num, by congr 1; omega⟩
      case measure => simp [intOf]; omega
    · obtain rfl : k = n := by omega
      go_wp2
      go_ret
      exact ⟨rfl, rfl⟩

end Go.Proofs.Ytmkkhbplfedpoaa

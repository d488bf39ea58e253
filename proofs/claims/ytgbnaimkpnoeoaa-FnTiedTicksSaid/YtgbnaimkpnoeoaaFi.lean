/- The walks of the laws' small functions on rows of whole numbers: equal, marked, held, the same. Conditions: as stated. -/
import Derived.Test.YtgbnaimkpnoeoaaFg
namespace Go.Proofs.Ytgbnaimkpnoeoaa
open Go.RowKit

/-- Slice a sees the numbers L. -/
def Ints (w : World) (a : Option Addr) (L : List Int) : Prop := Sees w a L.length (ic (lg L))
theorem Ints.pure {w w' : World} {a : Option Addr} {L : List Int} (h : Ints w a L) (hb : Below w.heap.size w w') : Ints w' a L := Sees.pure h hb
theorem Ints.alloc_ {w : World} {a : Option Addr} {L : List Int} (h : Ints w a L) (o : Obj) : Ints (w.alloc o) a L := h.pure ((Below.refl _ _).alloc (Nat.le_refl _) o)
theorem Ints.drewN_ {w : World} {a : Option Addr} {L : List Int} (h : Ints w a L) (n : Nat) : Ints (w.drewN n) a L := h
theorem ints_at {w : World} {a : Option Addr} {L : List Int} (h : Ints w a L) {k : Nat} {x : Int} (hx : L[k]? = some x) : ∃ g off, a = some ⟨g, off, none⟩ ∧ w.cell? ⟨g, off + k, none⟩ = some (.int .i64 x) := by
  have hk : k < L.length := (List.getElem?_eq_some_iff.1 hx).1
  obtain ⟨g, off, e, hc⟩ := h (by omega)
  refine ⟨g, off, e, ?_⟩
  rw [hc k hk]
  unfold ic
  rw [lg_get hx]
theorem nthI {L : List Int} {k : Nat} (h : k < L.length) : ∃ x, L[k]? = some x := ⟨L[k], List.getElem?_eq_getElem h⟩

set_option maxHeartbeats 2000000 in
theorem eqIntS_any (a a' : Option Addr) (n cap cap' : Nat) (L : List Int) (w : World) (hx : L.length = n) (h : Ints w a L) (h' : Ints w a' L) (hn : n ≤ 10000000) :
    Calls Try.prog 23 #[.slice a n cap, .slice a' n cap'] w (Gives (.bool true) w) := by
  have HX := Lib.hid hx
  have HS := Lib.hid h
  have HT := Lib.hid h'
  clear h h' hx
  go_enter Try.func23, Try.ntmps23
  go_wp2_with fail
  go_loopw [5] (fun i wr => ∃ k : Nat, k ≤ n ∧ i = .int .i64 k ∧ Below w.heap.size w wr) (fun i _ => n - (intOf i).toNat)
  case atStart => exact ⟨0, Nat.zero_le _, rfl, Below.refl _ _⟩
  case round =>
    obtain ⟨k, hk, rfl, hB⟩ := hrel
    have hsz := hB.size
    by_cases hlt : k < n
    · obtain ⟨x, hxk⟩ := nthI (L := L) (k := k) (by have := HX.out; omega)
      obtain ⟨g, off, rfl, c0⟩ := ints_at (HS.out.pure hB) hxk
      obtain ⟨g', off', rfl, d0⟩ := ints_at (HT.out.pure hB) hxk
      have hi0 : (0 : Int) ≤ (k : Int) := by omega
      have hi1 : (k : Int) < (n : Int) := by omega
      have HB := Lib.hid hB
      clear hxk hB
      go_wp2_with fail
      go_quiet (fail)
      go_wp2_with fail
      go_roundw
      case rel => exact ⟨k + 1, by omega, by go_num, below_drewN HB.out _⟩
      case measure => simp [intOf]; omega
    · obtain rfl : k = n := by omega
      go_wp2
      go_ret
      exact ⟨rfl, hB⟩

set_option maxHeartbeats 2000000 in
theorem sameInts_any (a a' : Option Addr) (n cap cap' : Nat) (L : List Int) (w : World) (hx : L.length = n) (h : Ints w a L) (h' : Ints w a' L) (hn : n ≤ 10000000) :
    Calls Try.prog 31 #[.slice a n cap, .slice a' n cap'] w (Gives (.bool true) w) := by
  have HX := Lib.hid hx
  have HS := Lib.hid h
  have HT := Lib.hid h'
  clear h h' hx
  go_enter Try.func31, Try.ntmps31
  go_wp2_with fail
  go_loopw [5] (fun i wr => ∃ k : Nat, k ≤ n ∧ i = .int .i64 k ∧ Below w.heap.size w wr) (fun i _ => n - (intOf i).toNat)
  case atStart => exact ⟨0, Nat.zero_le _, rfl, Below.refl _ _⟩
  case round =>
    obtain ⟨k, hk, rfl, hB⟩ := hrel
    have hsz := hB.size
    by_cases hlt : k < n
    · obtain ⟨x, hxk⟩ := nthI (L := L) (k := k) (by have := HX.out; omega)
      obtain ⟨g, off, rfl, c0⟩ := ints_at (HS.out.pure hB) hxk
      obtain ⟨g', off', rfl, d0⟩ := ints_at (HT.out.pure hB) hxk
      have hi0 : (0 : Int) ≤ (k : Int) := by omega
      have hi1 : (k : Int) < (n : Int) := by omega
      have HB := Lib.hid hB
      clear hxk hB
      go_wp2_with fail
      go_quiet (fail)
      go_wp2_with fail
      go_roundw
      case rel => exact ⟨k + 1, by omega, by go_num, below_drewN HB.out _⟩
      case measure => simp [intOf]; omega
    · obtain rfl : k = n := by omega
      go_wp2
      go_ret
      exact ⟨rfl, hB⟩

/-- How far the marks have come. -/
def MarkedI (w wr : World) (g off N j : Nat) (c : Nat → Value) : Prop :=
  w.grownBy wr (some g) ∧ ∀ i, i < N → wr.cell? ⟨g, off + i, none⟩ = some (if i < j then .int .i64 (1 + i) else c i) ∧ wr.frozen? ⟨g, off + i, none⟩ = false
theorem MarkedI.start {w : World} {g off N : Nat} {c : Nat → Value} (h : ∀ i, i < N → w.cell? ⟨g, off + i, none⟩ = some (c i) ∧ w.frozen? ⟨g, off + i, none⟩ = false) : MarkedI w w g off N 0 c :=
  ⟨World.grownBy.refl w _, fun i hi => by simpa using h i hi⟩
theorem only_setCellI {a w : World} {g o : Nat} (h : a.grownBy w (some g)) (u : Value) : a.grownBy (w.setCell ⟨g, o, none⟩ u) (some g) :=
  ⟨h.os, h.tape, h.output, by simpa [World.setCell] using h.size, fun i hi hne => (Below.heap_setCell w _ u i (by
    rintro rfl
    exact hne rfl)).trans (h.block i hi hne)⟩
theorem MarkedI.step {w wr : World} {g off N j : Nat} {c : Nat → Value} (h : MarkedI w wr g off N j c) : MarkedI w (wr.setCell ⟨g, off + j, none⟩ (.int .i64 (1 + (j : Int)))) g off N (j + 1) c := by
  refine ⟨only_setCellI h.1 _, fun i hi => ?_⟩
  obtain ⟨h1, h2⟩ := h.2 i hi
  refine ⟨?_, by simpa using h2⟩
  by_cases hij : i = j
  · subst hij
    rw [if_pos (by omega)]
    simp [go_sem, h1]
  · rw [World.cell?_setCell_other _ _ _ _ (fun e => hij (by injection e; omega)), h1]
    by_cases hl : i < j
    · rw [if_pos hl, if_pos (by omega)]
    · rw [if_neg hl, if_neg (by omega)]
theorem MarkedI.done {w wr : World} {B g off N : Nat} {c : Nat → Value} (h : MarkedI w wr g off N N c) (hB : B ≤ g) : Owns wr B (some ⟨g, off, none⟩) N (ic fun i => 1 + i) := fun _ =>
  ⟨g, off, rfl, hB, fun i hi => by
    obtain ⟨h1, h2⟩ := h.2 i hi
    rw [if_pos hi] at h1
    exact ⟨h1, h2⟩⟩
theorem MarkedI.below {w wr : World} {B g off N j : Nat} {c : Nat → Value} (h : MarkedI w wr g off N j c) (hB : B ≤ g) (hg : g < w.heap.size) : Below B w wr :=
  ⟨h.1.os, h.1.tape, h.1.output, h.1.size, fun i hi => h.1.block i (by omega) (fun e => by injection e; omega)⟩
/-- What marking leaves. -/
def MarkPostI (w : World) (B : Nat) (a : Option Addr) (n : Nat) (e : Ending) (w' : World) : Prop :=
  e = .returned (.int .i64 (1 + (n : Int))) ∧ Owns w' B a n (ic fun i => 1 + i) ∧ Below B w w'

set_option maxHeartbeats 2000000 in
theorem markIntS_any (B : Nat) (a : Option Addr) (n cap : Nat) (c : Nat → Value) (w : World) (h : Owns w B a n c) (hn : n ≤ 10000000) :
    Calls Try.prog 24 #[.slice a n cap, .int .i64 1] w (MarkPostI w B a n) := by
  by_cases hn0 : n = 0
  · subst hn0
    go_enter Try.func24, Try.ntmps24
    go_wp2_with fail
    refine wp_loop_rounds 1 ?_
    rw [rounds_succ]
    go_wp2
    go_ret
    exact ⟨by simp, Owns.none _ _ _ _, Below.refl _ _⟩
  obtain ⟨g, off, rfl, hB, hc⟩ := h (by omega)
  have hg : g < w.heap.size := cell_lt (hc 0 (by omega)).1
  have M0 := MarkedI.start hc
  clear hc h
  go_enter Try.func24, Try.ntmps24
  go_wp2_with fail
  go_loopw [1, 5] (fun kv i wr => ∃ k : Nat, k ≤ n ∧ i = .int .i64 k ∧ kv = .int .i64 (1 + (k : Int)) ∧ MarkedI w wr g off n k c) (fun _ i _ => n - (intOf i).toNat)
  case atStart => exact ⟨0, Nat.zero_le _, rfl, rfl, M0⟩
  case round =>
    clear M0
    obtain ⟨k, hk, rfl, rfl, M⟩ := hrel
    by_cases hlt : k < n
    · obtain ⟨c0, f0⟩ := M.2 k hlt
      have HM := Lib.hid M.step
      clear M
      go_wp2_with fail
      go_roundw
      case rel => exact ⟨k + 1, by omega, by go_num, by (congr 1 <;> omega), HM.out⟩
      case measure => simp [intOf]; omega
    · obtain rfl : k = n := by omega
      go_wp2
      go_ret
      exact ⟨rfl, M.done hB, M.below hB hg⟩

set_option maxHeartbeats 2000000 in
theorem heldIntS_any (a : Option Addr) (n cap : Nat) (w : World) (h : Sees w a n (ic fun i => 1 + i)) (hn : n ≤ 10000000) :
    Calls Try.prog 25 #[.slice a n cap, .int .i64 1] w fun e w' => e = .returned (.int .i64 (1 + (n : Int))) ∧ w = w' := by
  have HS := Lib.hid h
  clear h
  go_enter Try.func25, Try.ntmps25
  go_wp2_with fail
  go_loop [1, 5] (fun kv i => ∃ k : Nat, k ≤ n ∧ i = .int .i64 k ∧ kv = .int .i64 (1 + (k : Int))) (fun _ i => n - (intOf i).toNat)
  case atStart => exact ⟨0, Nat.zero_le _, rfl, rfl⟩
  case round =>
    obtain ⟨k, hk, rfl, rfl⟩ := hrel
    by_cases hlt : k < n
    · obtain ⟨g, off, rfl, hc⟩ := HS.out (by omega)
      have c0 := hc k hlt
      unfold ic at c0
      clear hc
      go_wp2_with fail
      go_round
      case rel => exact ⟨k + 1, by omega, by go_num, by (congr 1 <;> omega)⟩
      case measure => simp [intOf]; omega
    · obtain rfl : k = n := by omega
      go_wp2
      go_ret
      exact ⟨rfl, rfl⟩

end Go.Proofs.Ytgbnaimkpnoeoaa

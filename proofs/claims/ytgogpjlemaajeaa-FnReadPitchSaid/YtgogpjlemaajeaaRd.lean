/- The walks of the reader of codes: it opens, it picks. Conditions: the code's bytes lie in memory as a slice of bytes that came in does. -/
import Derived.Test.YtgogpjlemaajeaaPb
import Derived.Test.YtgogpjlemaajeaaKitb
import Derived.WalkSmall
import Derived.Deep.AppendLies
import Derived.Maps.AppendAt
namespace Go.Proofs.Ytgogpjlemaajeaa
open Go.RowKit

theorem only_drewN {a w : World} {row : Option Nat} (h : a.grownBy w row) (n : Nat) : a.grownBy (w.drewN n) row := ⟨h.os, h.tape, h.output, h.size, h.block⟩
theorem only_drew {a w : World} {row : Option Nat} (h : a.grownBy w row) : a.grownBy w.drew row := ⟨h.os, h.tape, h.output, h.size, h.block⟩
theorem only_alloc {a w : World} {row : Option Nat} (h : a.grownBy w row) (o : Obj) : a.grownBy (w.alloc o) row :=
  ⟨h.os, h.tape, h.output, Nat.le_trans h.size (by simp), fun i hi hne => (Below.heap_alloc w o i (Nat.lt_of_lt_of_le hi h.size)).trans (h.block i hi hne)⟩
theorem only_setCell {a w : World} {g : Nat} (h : a.grownBy w (some g)) {p : Addr} (hp : p.block = g ∨ a.heap.size ≤ p.block) (u : Value) : a.grownBy (w.setCell p u) (some g) :=
  ⟨h.os, h.tape, h.output, by simpa [World.setCell] using h.size, fun i hi hne => (Below.heap_setCell w p u i (by
    rintro rfl
    rcases hp with hp | hp
    · exact hne (by rw [hp])
    · omega)).trans (h.block i hi hne)⟩
theorem only_of_below {a w : World} (h : Below a.heap.size a w) (row : Option Nat) : a.grownBy w row := ⟨h.os, h.tape, h.output, h.size, fun i hi _ => h.block i hi⟩
theorem below_of_only {B g : Nat} {a w : World} (h : a.grownBy w (some g)) (hB : B ≤ g) (hg : g < a.heap.size) : Below B a w :=
  ⟨h.os, h.tape, h.output, h.size, fun i hi => h.block i (by omega) (fun e => by injection e; omega)⟩
theorem below_of_only2 {B g : Nat} {a w : World} (h : a.grownBy w (some g)) (hB : B ≤ g) (hg : B ≤ a.heap.size) : Below B a w :=
  ⟨h.os, h.tape, h.output, h.size, fun i hi => h.block i (by omega) (fun e => by injection e; omega)⟩
theorem only_trans {a b c : World} {row : Option Nat} (h : a.grownBy b row) (k : b.grownBy c row) : a.grownBy c row := h.trans k

/-- The bytes of a slice that came in: they lie below block B. -/
def Bytes (w : World) (B : Nat) (a : Option Addr) (len : Nat) : Prop :=
  0 < len → ∃ b off, a = some ⟨b, off, none⟩ ∧ b < B ∧ ∀ i, i < len → ∃ z : Int, w.cell? ⟨b, off + i, none⟩ = some (.int .u8 z) ∧ 0 ≤ z ∧ z ≤ 255

/-- Block R is a reader that has picked at most K times. -/
def RdOk (w : World) (R K : Nat) : Prop :=
  ∃ (a : Option Addr) (len cap k : Nat), w.cell? ⟨R, 0, none⟩ = some (.slice a len cap) ∧ w.cell? ⟨R, 1, none⟩ = some (.int .i64 (k : Int)) ∧ w.frozen? ⟨R, 1, none⟩ = false ∧ R < w.heap.size ∧ len ≤ 2000 ∧ k ≤ K ∧ Bytes w R a len

theorem Bytes.keep {w w' : World} {B : Nat} {a : Option Addr} {len : Nat} (h : Bytes w B a len) (hc : ∀ b o, b < B → w'.cell? ⟨b, o, none⟩ = w.cell? ⟨b, o, none⟩) : Bytes w' B a len := by
  intro h0
  obtain ⟨b, off, e, hb, hz⟩ := h h0
  refine ⟨b, off, e, hb, fun i hi => ?_⟩
  obtain ⟨z, hz, h1, h2⟩ := hz i hi
  exact ⟨z, (hc _ _ hb).trans hz, h1, h2⟩
theorem Bytes.more {w : World} {B B' : Nat} {a : Option Addr} {len : Nat} (h : Bytes w B a len) (hB : B ≤ B') : Bytes w B' a len := by
  intro h0
  obtain ⟨b, off, e, hb, hz⟩ := h h0
  exact ⟨b, off, e, by omega, hz⟩

theorem RdOk.keep {w w' : World} {R K : Nat} (h : RdOk w R K) (hc : ∀ b o, b ≤ R → w'.cell? ⟨b, o, none⟩ = w.cell? ⟨b, o, none⟩) (hf : w'.frozen? ⟨R, 1, none⟩ = w.frozen? ⟨R, 1, none⟩) (hs : w.heap.size ≤ w'.heap.size) : RdOk w' R K := by
  obtain ⟨a, len, cap, k, c0, c1, f1, hR, hl, hk, hb⟩ := h
  exact ⟨a, len, cap, k, (hc _ _ (Nat.le_refl _)).trans c0, (hc _ _ (Nat.le_refl _)).trans c1, hf.trans f1, by omega, hl, hk, hb.keep fun b o h => hc b o (by omega)⟩
theorem RdOk.lt {w : World} {R K : Nat} (h : RdOk w R K) : R < w.heap.size := by
  obtain ⟨a, len, cap, k, c0, c1, f1, hR, hl, hk, hb⟩ := h
  exact hR
theorem RdOk.mono {w : World} {R K K' : Nat} (h : RdOk w R K) (hK : K ≤ K') : RdOk w R K' := by
  obtain ⟨a, len, cap, k, c0, c1, f1, hR, hl, hk, hb⟩ := h
  exact ⟨a, len, cap, k, c0, c1, f1, hR, hl, by omega, hb⟩
theorem RdOk.below {w w' : World} {R k B : Nat} (h : RdOk w R k) (hb : Below B w w') (hB : R < B) : RdOk w' R k :=
  h.keep (fun b o hbo => hb.cell (p := ⟨b, o, none⟩) (by show b < B; omega)) (hb.frozen (p := ⟨R, 1, none⟩) hB) hb.size
theorem RdOk.alloc {w : World} {R k : Nat} (h : RdOk w R k) (o : Obj) : RdOk (w.alloc o) R k :=
  h.below (((Below.refl w.heap.size w)).alloc (Nat.le_refl _) o) h.lt
theorem RdOk.drew {w : World} {R k : Nat} (h : RdOk w R k) : RdOk w.drew R k := h
theorem RdOk.drewN {w : World} {R k : Nat} (h : RdOk w R k) (n : Nat) : RdOk (w.drewN n) R k := h
theorem RdOk.setCell {w : World} {R k : Nat} (h : RdOk w R k) {p : Addr} (hp : R < p.block) (u : Value) : RdOk (w.setCell p u) R k :=
  h.below ((Below.refl (R + 1) w).setCell hp u) (by omega)
theorem RdOk.only {w w' : World} {R K g : Nat} (h : RdOk w R K) (hg : w.grownBy w' (some g)) (hR : R < g) : RdOk w' R K :=
  h.below (below_of_only2 hg (show R + 1 ≤ g by omega) (by have := h.lt; omega)) (by omega)

theorem rem_bd {z n : Int} (h0 : 0 ≤ z) (h1 : 1 ≤ n) : 0 ≤ z % n ∧ z % n < n ∧ 0 ≤ z.tmod n ∧ z.tmod n < n := by
  have a := Int.emod_nonneg z (show n ≠ 0 by omega)
  have b := Int.emod_lt_of_pos z (show 0 < n by omega)
  rw [Int.tmod_eq_emod_of_nonneg h0]
  exact ⟨a, b, a, b⟩

theorem i64_ofInt (a : Nat) (ha : a < 9223372036854775808) : (BitVec.ofInt 64 (a : Int)).toNat = a := by
  rw [BitVec.ofInt_natCast, BitVec.toNat_ofNat]
  exact Nat.mod_eq_of_lt (by omega)
theorem xor_nat (x : Int) (h0 : 0 ≤ x) (h1 : x ≤ 1000000000000) : ∃ y : Int, bits .xor .i64 x (x / 64) = y ∧ 0 ≤ y := by
  obtain ⟨a, rfl⟩ := Int.eq_ofNat_of_zero_le h0
  refine ⟨((a ^^^ (a / 64) : Nat) : Int), ?_, Int.natCast_nonneg _⟩
  have hx : a ^^^ (a / 64) < 2 ^ 63 := Nat.xor_lt_two_pow (by omega) (by omega)
  have e : ((a : Int) / 64) = ((a / 64 : Nat) : Int) := by omega
  rw [e]
  show IntKind.i64.wrap ((BitVec.ofInt 64 (a : Int) ^^^ BitVec.ofInt 64 ((a / 64 : Nat) : Int)).toNat : Int) = _
  rw [BitVec.toNat_xor, i64_ofInt a (by omega), i64_ofInt _ (by omega), IntKind.wrap_i64]
  omega

/-- What a pick leaves: a number below n, and the reader one step on. -/
def PickPost (w : World) (R K : Nat) (n : Int) (e : Ending) (w' : World) : Prop :=
  ∃ v : Int, e = .returned (.int .i64 v) ∧ 0 ≤ v ∧ (1 ≤ n → v < n) ∧ (n < 1 → v = 0) ∧ w.grownBy w' (some R) ∧ RdOk w' R (K + 1)

theorem pickPost_mk {w : World} {R K k len cap : Nat} {a : Option Addr} {n v : Int} (c0 : w.cell? ⟨R, 0, none⟩ = some (.slice a len cap)) (c1 : w.cell? ⟨R, 1, none⟩ = some (.int .i64 (k : Int))) (f1 : w.frozen? ⟨R, 1, none⟩ = false)
    (hR : R < w.heap.size) (hl : len ≤ 2000) (hk : k ≤ K) (hb : Bytes w R a len) (j : Nat) (h0 : 0 ≤ v) (h1 : 1 ≤ n → v < n) (h2 : n < 1 → v = 0) :
    PickPost w R K n (.returned (.int .i64 v)) ((w.setCell ⟨R, 1, none⟩ (.int .i64 ((k : Int) + 1))).drewN j) := by
  refine ⟨v, rfl, h0, h1, h2, only_drewN (only_setCell (World.grownBy.refl w _) (.inl rfl) _) j, a, len, cap, k + 1, ?_, ?_, ?_, by simpa [World.setCell] using hR, hl, by omega, ?_⟩
  · simp [go_sem, c0]
  · simp [go_sem, c1]
  · simpa using f1
  · exact hb.keep fun b o hbo => by
      have : R ≠ b := by omega
      rw [World.cell?_drewN]
      exact World.cell?_setCell_other _ _ _ _ (fun e => this (by injection e))

set_option maxHeartbeats 400000 in
theorem pick_any (R K : Nat) (n : Int) (w : World) (h : RdOk w R K) (hK : K ≤ 100000) (hn : 0 ≤ n) (hn' : n ≤ 100000) :
    Calls Try.prog 46 #[.pointer (some ⟨R, 0, none⟩), .int .i64 n] w (PickPost w R K n) := by
  obtain ⟨a, len, cap, k, c0, c1, f1, hR, hlen, hk, hby⟩ := h
  by_cases hn1 : n < 1
  · go_enter Try.func46, Try.ntmps46
    go_wp2
    go_ret
    exact pickPost_mk c0 c1 f1 hR hlen hk hby 0 (by omega) (by omega) (by omega)
  by_cases hl0 : len = 0
  · subst hl0
    go_enter Try.func46, Try.ntmps46
    go_wp2
    go_ret
    exact pickPost_mk c0 c1 f1 hR hlen hk hby 0 (by omega) (by omega) (by omega)
  have hby' := hby
  obtain ⟨b, off, rfl, hbR, hz⟩ := hby (by omega)
  have hne : b ≠ R := by omega
  have hlb : ((len : Int) == 0) = false := by simp; omega
  have HB := Lib.hid hby'
  clear hby hby'
  by_cases hkl : k < len
  · obtain ⟨z, hzc, hz0, hz1⟩ := hz k hkl
    have HZ := Lib.hid hz
    clear hz
    go_enter Try.func46, Try.ntmps46
    go_wp2
    go_ret
    obtain ⟨m0, m1, m2, m3⟩ := rem_bd (z := z) (n := n) (by omega) (by omega)
    exact pickPost_mk c0 c1 f1 hR hlen hk HB.out 0 (by assumption) (fun _ => by assumption) (by omega)
  · have hlp : 0 < len := by omega
    obtain ⟨i, hi, r1⟩ : ∃ i : Nat, i < len ∧ (k : Int).tmod (len : Int) = (i : Int) := ⟨k % len, Nat.mod_lt _ hlp, by rw [Int.tmod_eq_emod_of_nonneg (by omega)]; push_cast; rfl⟩
    obtain ⟨j, hj, r2⟩ : ∃ j : Nat, j < len ∧ ((k : Int) * 7 + 3).tmod (len : Int) = (j : Int) := ⟨(k * 7 + 3) % len, Nat.mod_lt _ hlp, by rw [Int.tmod_eq_emod_of_nonneg (by omega)]; push_cast; rfl⟩
    obtain ⟨q, hq, r4⟩ : ∃ q : Nat, q ≤ k ∧ (k : Int).tdiv (len : Int) = (q : Int) := ⟨k / len, Nat.div_le_self _ _, by rw [Int.tdiv_eq_ediv_of_nonneg (by omega)]; push_cast; rfl⟩
    obtain ⟨z1, hzc1, hz10, hz11⟩ := hz _ hi
    obtain ⟨z2, hzc2, hz20, hz21⟩ := hz _ hj
    have HZ := Lib.hid hz
    clear hz
    have R1 := Lib.hid r1
    have R2 := Lib.hid r2
    have R4 := Lib.hid r4
    clear r1 r2 r4
    go_enter Try.func46, Try.ntmps46
    go_wp2
    have r1 := R1.out
    have r2 := R2.out
    have r4 := R4.out
    have hi' : (i : Int) < (len : Int) := by omega
    have hj' : (j : Int) < (len : Int) := by omega
    have r3 : IntKind.i64.wrap (q : Int) = (q : Int) := IntWalk.i64_in _ (by omega)
    have w1 : IntKind.i64.wrap ((k : Int) * 7) = (k : Int) * 7 := IntWalk.i64_in _ (by omega)
    have w2 : IntKind.i64.wrap ((k : Int) * 7 + 3) = (k : Int) * 7 + 3 := IntWalk.i64_in _ (by omega)
    have w3 : IntKind.i64.wrap (z1 * 131) = z1 * 131 := IntWalk.i64_in _ (by omega)
    have w4 : IntKind.i64.wrap (z2 * 1117) = z2 * 1117 := IntWalk.i64_in _ (by omega)
    have w5 : IntKind.i64.wrap (z1 * 131 + z2 * 1117) = z1 * 131 + z2 * 1117 := IntWalk.i64_in _ (by omega)
    have w6 : IntKind.i64.wrap ((k : Int) * 29) = (k : Int) * 29 := IntWalk.i64_in _ (by omega)
    have w7 : IntKind.i64.wrap (z1 * 131 + z2 * 1117 + (k : Int) * 29) = z1 * 131 + z2 * 1117 + (k : Int) * 29 := IntWalk.i64_in _ (by omega)
    have w8 : IntKind.i64.wrap ((q : Int) * 53) = (q : Int) * 53 := IntWalk.i64_in _ (by omega)
    have w9 : IntKind.i64.wrap (z1 * 131 + z2 * 1117 + (k : Int) * 29 + (q : Int) * 53) = z1 * 131 + z2 * 1117 + (k : Int) * 29 + (q : Int) * 53 := IntWalk.i64_in _ (by omega)
    go_quiet (fail)
    clear w1 w2 w3 w4 w5 w6 w7 w8 w9 r1 r2 r3 r4
    obtain ⟨X, hX⟩ : ∃ X, X = z1 * 131 + z2 * 1117 + (k : Int) * 29 + (q : Int) * 53 := ⟨_, rfl⟩
    rw [← hX]
    have x0 : 0 ≤ X := by omega
    have x1 : X ≤ 1000000000000 := by omega
    have HX := Lib.hid hX
    clear hX
    obtain ⟨Y, hY, y0⟩ := xor_nat X x0 x1
    go_wp2
    go_ret
    obtain ⟨m0, m1, m2, m3⟩ := rem_bd (z := Y) (n := n) y0 (by omega)
    exact pickPost_mk c0 c1 f1 hR hlen hk HB.out _ (by assumption) (fun _ => by assumption) (by omega)

end Go.Proofs.Ytgogpjlemaajeaa

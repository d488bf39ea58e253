/- The walk of the draw of a voice and a tick. Conditions: the code lies in memory as a slice of bytes that came in does. -/
import Derived.Test.YtmkkhbplfedpoaaDu
namespace Go.Proofs.Ytmkkhbplfedpoaa
open Go.RowKit

/-- What the draw NoteAt leaves. -/
def DrawnNoteAt (w : World) (e : Ending) (w' : World) : Prop :=
  ∃ a cap L, ∃ i : Int, e = .returned (.tuple #[.slice a (List.length L) cap, .int .i64 i]) ∧ (-1 ≤ i ∧ i ≤ 9223372036854775807) ∧ Below w.heap.size w w' ∧ Voice w' a L ∧ L.length ≤ 70 ∧ L.length ≤ cap ∧ cap ≤ maxLen
/-- The draw under way: the reader, and the voice that is drawn. -/
def SN (w W : World) (R K : Nat) (b : Option Addr) (N : Nat) (c : Nat → Value) : Prop := Dr w W R K ∧ Owns W (R + 1) b N c
theorem SN.rd {w W : World} {R K : Nat} {b : Option Addr} {N : Nat} {c : Nat → Value} (h : SN w W R K b N c) : RdOk W R K := h.1.rd
theorem SN.alloc {w W : World} {R K : Nat} {b : Option Addr} {N : Nat} {c : Nat → Value} (h : SN w W R K b N c) (o : Obj) : SN w (W.alloc o) R K b N c := ⟨h.1.alloc o, h.2.pure ((Below.refl _ _).alloc (Nat.le_refl _) o)⟩
theorem SN.drew {w W : World} {R K : Nat} {b : Option Addr} {N : Nat} {c : Nat → Value} (h : SN w W R K b N c) : SN w W.drew R K b N c := ⟨h.1.drew, h.2⟩
theorem SN.pick {w W w1 : World} {R K K' : Nat} {b : Option Addr} {N : Nat} {c : Nat → Value} (h : SN w W R K b N c) (hg : W.grownBy w1 (some R)) (hr : RdOk w1 R K') : SN w w1 R K' b N c :=
  ⟨h.1.pick hg hr, fun h0 => by
    obtain ⟨g, off, e, hB, hc⟩ := h.2 h0
    refine ⟨g, off, e, hB, fun i hi => ?_⟩
    obtain ⟨h1, h2⟩ := hc i hi
    have hk := hg.block g (cell_lt h1) (fun e => by injection e; omega)
    exact ⟨(World.cell?_of_block (a := ⟨g, off + i, none⟩) hk).trans h1, (World.frozen?_of_block (a := ⟨g, off + i, none⟩) hk).trans h2⟩⟩
theorem SN.size {w W : World} {R K : Nat} {b : Option Addr} {N : Nat} {c : Nat → Value} (h : SN w W R K b N c) : w.heap.size ≤ W.heap.size := h.1.size
theorem ne_of {g R : Nat} (h : R < g) : some g ≠ some R := fun e => by
  injection e
  omega
theorem seven_at (j : Nat) (h : (j : Int) < 7) : ∃ q : Nat, (#[.int .i64 0, .int .i64 0, .int .i64 1, .int .i64 1, .int .i64 1, .int .i64 2, .int .i64 3] : Array Value)[j]? = some (.int .i64 (q : Int)) ∧ q < 4 := by
  obtain rfl | rfl | rfl | rfl | rfl | rfl | rfl : j = 0 ∨ j = 1 ∨ j = 2 ∨ j = 3 ∨ j = 4 ∨ j = 5 ∨ j = 6 := by omega
  · exact ⟨0, rfl, by omega⟩
  · exact ⟨0, rfl, by omega⟩
  · exact ⟨1, rfl, by omega⟩
  · exact ⟨1, rfl, by omega⟩
  · exact ⟨1, rfl, by omega⟩
  · exact ⟨2, rfl, by omega⟩
  · exact ⟨3, rfl, by omega⟩
theorem tick_at (x z : Int) (hx : 0 ≤ x ∧ x < 256) (hz : 0 ≤ z ∧ z < 40) (q : Nat) (h : q < 4) : ∃ y : Int, (#[.int .i64 x, .int .i64 (z * 12), .int .i64 (-1), .int .i64 9223372036854775807] : Array Value)[q]? = some (.int .i64 y) ∧ -1 ≤ y ∧ y ≤ 9223372036854775807 := by
  obtain rfl | rfl | rfl | rfl : q = 0 ∨ q = 1 ∨ q = 2 ∨ q = 3 := by omega
  · exact ⟨x, rfl, by omega, by omega⟩
  · exact ⟨z * 12, rfl, by omega, by omega⟩
  · exact ⟨-1, rfl, by omega, by omega⟩
  · exact ⟨9223372036854775807, rfl, by omega, by omega⟩
theorem new_1 (T : TypeId) {j : Nat} {y : Int} {c : Array Value} (h : c[j]? = some (.int .i64 y)) (W : World) : (W.alloc (.cells c T)).cell? ⟨W.heap.size, j, none⟩ = some (.int .i64 y) := Blk.get (Blk.new W T c) h
theorem new_2 (T : TypeId) {j : Nat} {y : Int} {c : Array Value} (h : c[j]? = some (.int .i64 y)) (W : World) (o : Obj) : ((W.alloc o).alloc (.cells c T)).cell? ⟨W.heap.size + 1, j, none⟩ = some (.int .i64 y) := by
  have h1 := Blk.get (Blk.new (W.alloc o) T c) h
  rwa [World.size_alloc] at h1
theorem new_3 (T : TypeId) {j : Nat} {y : Int} {c : Array Value} (h : c[j]? = some (.int .i64 y)) (W : World) (o : Obj) : ((W.alloc (.cells c T)).alloc o).cell? ⟨W.heap.size, j, none⟩ = some (.int .i64 y) := Blk.get ((Blk.new W T c).alloc o) h

set_option maxRecDepth 100000 in
set_option maxHeartbeats 16000000 in
theorem drawNoteAt_any (a : Option Addr) (len cap : Nat) (w : World) (h : Code' w a len cap) (hl : len ≤ 1048576) :
    Calls Try.prog 42 #[.slice a len cap] w (DrawnNoteAt w) := by
  obtain ⟨h1, h2, h3⟩ := h
  go_enter Try.func42, Try.ntmps42
  go_wp2_with fail
  refine (open_any a len cap _ (by first | exact h1 | exact (Code'.below (w := w) ⟨h1, h2, h3⟩ (by go_grown)).1) hl h2 h3).mono ?_
  rintro e w1 ⟨R, rfl, hR, hb, hr⟩
  have hB1 := below_pure (w := w) (by go_grown) hb
  clear hb
  have hR' : w.heap.size ≤ R := by (try simp at hR); omega
  clear hR
  have D1 := Dr.start hr
  go_wp2_with fail
  refine (l20Voice_any R _ 12 _ D1.rd (by omega) (by omega) (by omega)).mono ?_
  rintro e w2 ⟨b, cb, L, rfl, hL, E, O, l1, l2⟩
  have hRs := hr.lt
  have S0 : SN w1 w2 R (0 + 500) b (L.length * 6) (nc L) := ⟨D1.pick E.1 E.2.1, fun h0 => by
    obtain ⟨g, off, e, hg, hc⟩ := O h0
    exact ⟨g, off, e, by omega, hc⟩⟩
  have hs0 := S0.size
  clear E O D1
  go_upto_region 3 with fail
  go_region_with (first | (go_at_call 61; (with_reducible refine (pick_any R (0 + 500) 256 _ ?_ (by omega) (by omega) (by omega)).mono ?_); (focus (first | exact S0.rd | exact S0.drew.rd | exact (S0.alloc _).rd | exact (S0.alloc _).drew.rd | exact ((S0.alloc _).alloc _).rd)); rintro e ca ⟨x, rfl, v0, v1, -, ha, hr⟩; replace v1 := v1 (by omega); have S1 : SN w1 ca R (0 + 500 + 1) b (L.length * 6) (nc L) := (by first | exact S0.pick ha hr | exact S0.drew.pick ha hr | exact (S0.alloc _).pick ha hr | exact (S0.alloc _).drew.pick ha hr | exact ((S0.alloc _).alloc _).pick ha hr); have hs1 := S1.size; (try (first | (replace kB := kB.grown ha (ne_of (by (try simp only [World.size_alloc]); omega))) | (replace kB := (kB.alloc _).grown ha (ne_of (by (try simp only [World.size_alloc]); omega))) | (have kB : Blk ca _ 3 #[.int .i64 0, .int .i64 0, .int .i64 1, .int .i64 1, .int .i64 1, .int .i64 2, .int .i64 3] := (Blk.new _ _ _).grown ha (ne_of (by (try simp only [World.size_alloc]); omega))) | (have kB : Blk ca _ 3 #[.int .i64 0, .int .i64 0, .int .i64 1, .int .i64 1, .int .i64 1, .int .i64 2, .int .i64 3] := (Blk.new _ _ _).drew.grown ha (ne_of (by (try simp only [World.size_alloc]); omega))) | (have kB : Blk ca _ 3 #[.int .i64 0, .int .i64 0, .int .i64 1, .int .i64 1, .int .i64 1, .int .i64 2, .int .i64 3] := ((Blk.new _ _ _).alloc _).grown ha (ne_of (by (try simp only [World.size_alloc]); omega))))); have hx : 0 ≤ x ∧ x < 256 := ⟨v0, v1⟩; clear v0 v1; clear ha hr) | (go_at_call 61; (with_reducible refine (pick_any R (0 + 500 + 1) 40 _ ?_ (by omega) (by omega) (by omega)).mono ?_); (focus (first | exact S1.rd | exact S1.drew.rd | exact (S1.alloc _).rd | exact (S1.alloc _).drew.rd | exact ((S1.alloc _).alloc _).rd)); rintro e ca ⟨z, rfl, v0, v1, -, ha, hr⟩; replace v1 := v1 (by omega); have S2 : SN w1 ca R (0 + 500 + 1 + 1) b (L.length * 6) (nc L) := (by first | exact S1.pick ha hr | exact S1.drew.pick ha hr | exact (S1.alloc _).pick ha hr | exact (S1.alloc _).drew.pick ha hr | exact ((S1.alloc _).alloc _).pick ha hr); have hs2 := S2.size; (try (first | (replace kB := kB.grown ha (ne_of (by (try simp only [World.size_alloc]); omega))) | (replace kB := (kB.alloc _).grown ha (ne_of (by (try simp only [World.size_alloc]); omega))) | (have kB : Blk ca _ 3 #[.int .i64 0, .int .i64 0, .int .i64 1, .int .i64 1, .int .i64 1, .int .i64 2, .int .i64 3] := (Blk.new _ _ _).grown ha (ne_of (by (try simp only [World.size_alloc]); omega))) | (have kB : Blk ca _ 3 #[.int .i64 0, .int .i64 0, .int .i64 1, .int .i64 1, .int .i64 1, .int .i64 2, .int .i64 3] := (Blk.new _ _ _).drew.grown ha (ne_of (by (try simp only [World.size_alloc]); omega))) | (have kB : Blk ca _ 3 #[.int .i64 0, .int .i64 0, .int .i64 1, .int .i64 1, .int .i64 1, .int .i64 2, .int .i64 3] := ((Blk.new _ _ _).alloc _).grown ha (ne_of (by (try simp only [World.size_alloc]); omega))))); have hz : 0 ≤ z ∧ z < 40 := ⟨v0, v1⟩; have hw : IntKind.i64.wrap (z * 12) = z * 12 := (IntWalk.i64_in _ (by omega)); clear v0 v1; clear ha hr) | (go_at_call 61; (with_reducible refine (pick_any R (0 + 500 + 1 + 1) 7 _ ?_ (by omega) (by omega) (by omega)).mono ?_); (focus (first | exact S2.rd | exact S2.drew.rd | exact (S2.alloc _).rd | exact (S2.alloc _).drew.rd | exact ((S2.alloc _).alloc _).rd)); rintro e ca ⟨v, rfl, v0, v1, -, ha, hr⟩; replace v1 := v1 (by omega); have S3 : SN w1 ca R (0 + 500 + 1 + 1 + 1) b (L.length * 6) (nc L) := (by first | exact S2.pick ha hr | exact S2.drew.pick ha hr | exact (S2.alloc _).pick ha hr | exact (S2.alloc _).drew.pick ha hr | exact ((S2.alloc _).alloc _).pick ha hr); have hs3 := S3.size; (try (first | (replace kB := kB.grown ha (ne_of (by (try simp only [World.size_alloc]); omega))) | (replace kB := (kB.alloc _).grown ha (ne_of (by (try simp only [World.size_alloc]); omega))) | (have kB : Blk ca _ 3 #[.int .i64 0, .int .i64 0, .int .i64 1, .int .i64 1, .int .i64 1, .int .i64 2, .int .i64 3] := (Blk.new _ _ _).grown ha (ne_of (by (try simp only [World.size_alloc]); omega))) | (have kB : Blk ca _ 3 #[.int .i64 0, .int .i64 0, .int .i64 1, .int .i64 1, .int .i64 1, .int .i64 2, .int .i64 3] := (Blk.new _ _ _).drew.grown ha (ne_of (by (try simp only [World.size_alloc]); omega))) | (have kB : Blk ca _ 3 #[.int .i64 0, .int .i64 0, .int .i64 1, .int .i64 1, .int .i64 1, .int .i64 2, .int .i64 3] := ((Blk.new _ _ _).alloc _).grown ha (ne_of (by (try simp only [World.size_alloc]); omega))))); (try (first | (replace kA := kA.grown ha (ne_of (by (try simp only [World.size_alloc]); omega))) | (replace kA := (kA.alloc _).grown ha (ne_of (by (try simp only [World.size_alloc]); omega))) | (have kA : Blk ca _ 3 #[.int .i64 x, .int .i64 (z * 12), .int .i64 (-1), .int .i64 9223372036854775807] := (Blk.new _ _ _).grown ha (ne_of (by (try simp only [World.size_alloc]); omega))) | (have kA : Blk ca _ 3 #[.int .i64 x, .int .i64 (z * 12), .int .i64 (-1), .int .i64 9223372036854775807] := (Blk.new _ _ _).drew.grown ha (ne_of (by (try simp only [World.size_alloc]); omega))) | (have kA : Blk ca _ 3 #[.int .i64 x, .int .i64 (z * 12), .int .i64 (-1), .int .i64 9223372036854775807] := ((Blk.new _ _ _).alloc _).grown ha (ne_of (by (try simp only [World.size_alloc]); omega))))); obtain ⟨j, rfl⟩ := Int.eq_ofNat_of_zero_le v0; obtain ⟨q, hj, hq4⟩ := seven_at j (by omega); obtain ⟨y, hy, hy1, hy2⟩ := tick_at x z hx hz q hq4; have q0 : (0 : Int) ≤ (q : Int) := (by omega); have q1 : (q : Int) < 4 := (by omega); have B1 := new_1 3 hj ca; have B2 := new_2 3 hj ca (.cells #[.int .i64 x, .int .i64 (z * 12), .int .i64 (-1), .int .i64 9223372036854775807] 3); have B3 := new_3 3 hj ca (.cells #[.int .i64 x, .int .i64 (z * 12), .int .i64 (-1), .int .i64 9223372036854775807] 3); have A1 := new_1 3 hy ca; have A2 := new_2 3 hy ca (.cells #[.int .i64 0, .int .i64 0, .int .i64 1, .int .i64 1, .int .i64 1, .int .i64 2, .int .i64 3] 3); have A3 := new_3 3 hy ca (.cells #[.int .i64 0, .int .i64 0, .int .i64 1, .int .i64 1, .int .i64 1, .int .i64 2, .int .i64 3] 3); (try (have pA := Blk.get kA hy; have zA := kA.lt; (try simp only [World.size_alloc] at pA zA))); (try (have pB := Blk.get kB hj; have zB := kB.lt; (try simp only [World.size_alloc] at pB zB))); have HY := Lib.hid (And.intro hy1 hy2); clear hj hy hy1 hy2; clear ha hr))
  all_goals
    have hS : ∀ W', SN w1 W' R (0 + 500 + 1 + 1 + 1) b (L.length * 6) (nc L) → Below w.heap.size w W' ∧ Voice W' b L := fun W' h => ⟨h.1.whole hB1 (by omega), h.2.sees⟩
    have HS := Lib.hid hS
    have HS3 := Lib.hid S3
    clear hS S3
    go_wp2_with fail
    go_ret2
    have HF : ∀ W', SN w1 W' R (0 + 500 + 1 + 1 + 1) b (L.length * 6) (nc L) → DrawnNoteAt w (.returned (.tuple #[.slice b L.length cb, .int .i64 y])) W' := fun W' h => ⟨b, cb, L, y, rfl, HY.out, (HS.out W' h).1, (HS.out W' h).2, hL, l1, l2⟩
    first | exact HF _ HS3.out | exact HF _ (HS3.out.alloc _) | exact HF _ ((HS3.out.alloc _).alloc _)

end Go.Proofs.Ytmkkhbplfedpoaa

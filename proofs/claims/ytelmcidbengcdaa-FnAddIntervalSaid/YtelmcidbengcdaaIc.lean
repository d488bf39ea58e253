/- The walks of the functions from pitches to intervals and back. No condition. -/
import Derived.Test.YtelmcidbengcdaaIb
import Derived.Test.YtelmcidbengcdaaKitb
namespace Go.Proofs.Ytelmcidbengcdaa
open Go.RowKit

def ofB (s a o s' a' o' x y : Int) : Bool := pitchB s a o && pitchB s' a' o' && intB x y
def ofX (b : Bool) (x : Int) : Int := if b then x else 0

set_option maxHeartbeats 4000000 in
theorem intervalOf_any (s a o s' a' o' : Int) (w : World) (x y : Int) (hx : placeV s' a' o' - placeV s a o = x) (hy : keyV s' a' o' - keyV s a o = y) :
    Calls Try.prog 27 #[.agg #[.int .i64 s, .int .i64 a, .int .i64 o], .agg #[.int .i64 s', .int .i64 a', .int .i64 o']] w
      (Gives (.tuple #[.agg #[.int .i64 (ofX (ofB s a o s' a' o' x y) x), .int .i64 (ofX (ofB s a o s' a' o' x y) y)], .bool (ofB s a o s' a' o' x y)]) w) := by
  obtain ⟨b0, b1⟩ := placeV_bd s a o
  obtain ⟨b2, b3⟩ := placeV_bd s' a' o'
  obtain ⟨b4, b5⟩ := keyV_bd s a o
  obtain ⟨b6, b7⟩ := keyV_bd s' a' o'
  have q1 : IntKind.i64.wrap (placeV s' a' o' - placeV s a o) = x := by rw [← hx]; exact IntWalk.i64_in _ (by omega)
  have q2 : IntKind.i64.wrap (keyV s' a' o' - keyV s a o) = y := by rw [← hy]; exact IntWalk.i64_in _ (by omega)
  clear hx hy b0 b1 b2 b3 b4 b5 b6 b7
  go_enter Try.func27, Try.ntmps27
  go_upto_region 1 with fail
  go_cut [6] (fun v wc => Blk wc (w.heap.size) 36 #[.int .i64 s, .int .i64 a, .int .i64 o] ∧ Blk wc (w.heap.size + 1) 36 #[.int .i64 s', .int .i64 a', .int .i64 o'] ∧ Blk wc (w.heap.size + 2) 25 #[.int .i64 0, .int .i64 0] ∧ Below w.heap.size w wc ∧ ∃ g : Nat, v = .pointer (some ⟨g, 0, none⟩) ∧ Blk wc (g) 25 #[.int .i64 x, .int .i64 y] ∧ w.heap.size + 2 < g)
  case first =>
    have HS : Blk (((w.alloc (Obj.cells #[.int .i64 s, .int .i64 a, .int .i64 o] 36)).alloc (Obj.cells #[.int .i64 s', .int .i64 a', .int .i64 o'] 36)).alloc (Obj.cells #[.int .i64 0, .int .i64 0] 25)) (w.heap.size) 36 #[.int .i64 s, .int .i64 a, .int .i64 o] ∧ (((w.alloc (Obj.cells #[.int .i64 s, .int .i64 a, .int .i64 o] 36)).alloc (Obj.cells #[.int .i64 s', .int .i64 a', .int .i64 o'] 36)).alloc (Obj.cells #[.int .i64 0, .int .i64 0] 25)).cell? ⟨w.heap.size, 0, none⟩ = some (.int .i64 s) ∧ (((w.alloc (Obj.cells #[.int .i64 s, .int .i64 a, .int .i64 o] 36)).alloc (Obj.cells #[.int .i64 s', .int .i64 a', .int .i64 o'] 36)).alloc (Obj.cells #[.int .i64 0, .int .i64 0] 25)).cell? ⟨w.heap.size, 1, none⟩ = some (.int .i64 a) ∧ (((w.alloc (Obj.cells #[.int .i64 s, .int .i64 a, .int .i64 o] 36)).alloc (Obj.cells #[.int .i64 s', .int .i64 a', .int .i64 o'] 36)).alloc (Obj.cells #[.int .i64 0, .int .i64 0] 25)).cell? ⟨w.heap.size, 2, none⟩ = some (.int .i64 o) ∧ Blk (((w.alloc (Obj.cells #[.int .i64 s, .int .i64 a, .int .i64 o] 36)).alloc (Obj.cells #[.int .i64 s', .int .i64 a', .int .i64 o'] 36)).alloc (Obj.cells #[.int .i64 0, .int .i64 0] 25)) (w.heap.size + 1) 36 #[.int .i64 s', .int .i64 a', .int .i64 o'] ∧ (((w.alloc (Obj.cells #[.int .i64 s, .int .i64 a, .int .i64 o] 36)).alloc (Obj.cells #[.int .i64 s', .int .i64 a', .int .i64 o'] 36)).alloc (Obj.cells #[.int .i64 0, .int .i64 0] 25)).cell? ⟨w.heap.size + 1, 0, none⟩ = some (.int .i64 s') ∧ (((w.alloc (Obj.cells #[.int .i64 s, .int .i64 a, .int .i64 o] 36)).alloc (Obj.cells #[.int .i64 s', .int .i64 a', .int .i64 o'] 36)).alloc (Obj.cells #[.int .i64 0, .int .i64 0] 25)).cell? ⟨w.heap.size + 1, 1, none⟩ = some (.int .i64 a') ∧ (((w.alloc (Obj.cells #[.int .i64 s, .int .i64 a, .int .i64 o] 36)).alloc (Obj.cells #[.int .i64 s', .int .i64 a', .int .i64 o'] 36)).alloc (Obj.cells #[.int .i64 0, .int .i64 0] 25)).cell? ⟨w.heap.size + 1, 2, none⟩ = some (.int .i64 o') ∧ Blk (((w.alloc (Obj.cells #[.int .i64 s, .int .i64 a, .int .i64 o] 36)).alloc (Obj.cells #[.int .i64 s', .int .i64 a', .int .i64 o'] 36)).alloc (Obj.cells #[.int .i64 0, .int .i64 0] 25)) (w.heap.size + 2) 25 #[.int .i64 0, .int .i64 0] ∧ Below w.heap.size w (((w.alloc (Obj.cells #[.int .i64 s, .int .i64 a, .int .i64 o] 36)).alloc (Obj.cells #[.int .i64 s', .int .i64 a', .int .i64 o'] 36)).alloc (Obj.cells #[.int .i64 0, .int .i64 0] 25)) := by
      (repeat' apply And.intro) <;> first | assumption | exact Blk.new' (by simp) | exact (Blk.new' (by simp)).alloc _ | exact ((Blk.new' (by simp)).alloc _).alloc _ | exact Blk.get (Blk.new' (by simp)) rfl | exact Blk.get ((Blk.new' (by simp)).alloc _) rfl | exact Blk.get (((Blk.new' (by simp)).alloc _).alloc _) rfl | (go_grown; done)
    generalize (((w.alloc (Obj.cells #[.int .i64 s, .int .i64 a, .int .i64 o] 36)).alloc (Obj.cells #[.int .i64 s', .int .i64 a', .int .i64 o'] 36)).alloc (Obj.cells #[.int .i64 0, .int .i64 0] 25)) = A0 at HS ⊢
    have HSd := Lib.hid (show Blk A0.drew (w.heap.size) 36 #[.int .i64 s, .int .i64 a, .int .i64 o] ∧ A0.drew.cell? ⟨w.heap.size, 0, none⟩ = some (.int .i64 s) ∧ A0.drew.cell? ⟨w.heap.size, 1, none⟩ = some (.int .i64 a) ∧ A0.drew.cell? ⟨w.heap.size, 2, none⟩ = some (.int .i64 o) ∧ Blk A0.drew (w.heap.size + 1) 36 #[.int .i64 s', .int .i64 a', .int .i64 o'] ∧ A0.drew.cell? ⟨w.heap.size + 1, 0, none⟩ = some (.int .i64 s') ∧ A0.drew.cell? ⟨w.heap.size + 1, 1, none⟩ = some (.int .i64 a') ∧ A0.drew.cell? ⟨w.heap.size + 1, 2, none⟩ = some (.int .i64 o') ∧ Blk A0.drew (w.heap.size + 2) 25 #[.int .i64 0, .int .i64 0] ∧ Below w.heap.size w A0.drew from ⟨HS.1, HS.2.1, HS.2.2.1, HS.2.2.2.1, HS.2.2.2.2.1, HS.2.2.2.2.2.1, HS.2.2.2.2.2.2.1, HS.2.2.2.2.2.2.2.1, HS.2.2.2.2.2.2.2.2.1, HS.2.2.2.2.2.2.2.2.2.drew⟩)
    have hz : w.heap.size + 2 < A0.heap.size := by (go_split_ands; exact Blk.lt (by assumption))
    clear HS
    go_region_held3 (fun w' => Blk w' (w.heap.size) 36 #[.int .i64 s, .int .i64 a, .int .i64 o] ∧ w'.cell? ⟨w.heap.size, 0, none⟩ = some (.int .i64 s) ∧ w'.cell? ⟨w.heap.size, 1, none⟩ = some (.int .i64 a) ∧ w'.cell? ⟨w.heap.size, 2, none⟩ = some (.int .i64 o) ∧ Blk w' (w.heap.size + 1) 36 #[.int .i64 s', .int .i64 a', .int .i64 o'] ∧ w'.cell? ⟨w.heap.size + 1, 0, none⟩ = some (.int .i64 s') ∧ w'.cell? ⟨w.heap.size + 1, 1, none⟩ = some (.int .i64 a') ∧ w'.cell? ⟨w.heap.size + 1, 2, none⟩ = some (.int .i64 o') ∧ Blk w' (w.heap.size + 2) 25 #[.int .i64 0, .int .i64 0] ∧ Below w.heap.size w w')
      (first | exact HSd.out | (go_split_ands; go_split_ands; (repeat' apply And.intro) <;> first | (with_reducible assumption) | (with_reducible exact Blk.pure (by assumption) hbc) | (with_reducible exact Blk.get (Blk.pure (by assumption) hbc) rfl) | (with_reducible exact below_pure (by assumption) hbc) | (with_reducible exact Blk.alloc (by assumption) _) | (with_reducible exact Blk.get (Blk.alloc (by assumption) _) rfl) | (with_reducible exact Below.alloc (by assumption) (Below.size (by assumption)) _) | (with_reducible exact Blk.drew (Blk.alloc (Blk.undrew (by assumption)) _)) | (with_reducible exact Blk.get (Blk.drew (Blk.alloc (Blk.undrew (by assumption)) _)) rfl) | (with_reducible exact Below.drew (Below.alloc (below_undrew (by assumption)) (Below.size (below_undrew (by assumption))) _)) | (with_reducible exact Blk.swap (by assumption) (by omega)) | (with_reducible exact Blk.get (Blk.swap (by assumption) (by omega)) rfl) | (with_reducible exact below_swap (by assumption) (by omega)) | (with_reducible exact (Blk.ne (Blk.ne (by assumption) (by first | omega | (simp; omega)) _) (by first | omega | (simp; omega)) _)) | (with_reducible exact Blk.get (Blk.ne (Blk.ne (by assumption) (by first | omega | (simp; omega)) _) (by first | omega | (simp; omega)) _) rfl) | (with_reducible exact (Below.setCell (Below.setCell (by assumption) (by first | omega | (simp; omega)) _) (by first | omega | (simp; omega)) _))))
      (first | ((go_at_call 45; refine (pitchPlace_any _ _ _ _).mono ?_; rintro e w2 ⟨rfl, hbc⟩); have hz : w.heap.size + 2 < w2.heap.size := (by (go_split_ands; refine Nat.lt_of_lt_of_le ?_ hbc.size; exact Blk.lt (by assumption))); (try have hN := Blk.pure hN hbc); (try have hN := Blk.new_pure hbc); (try have hN := Blk.new_pure_drew hbc); (try (have hN0 := Blk.get (i := 0) hN rfl; have hM0 := hN.frozen 0; have hN1 := Blk.get (i := 1) hN rfl; have hM1 := hN.frozen 1))) | ((go_at_call 46; refine (pitchKey_any _ _ _ _).mono ?_; rintro e w2 ⟨rfl, hbc⟩); have hz : w.heap.size + 2 < w2.heap.size := (by (go_split_ands; refine Nat.lt_of_lt_of_le ?_ hbc.size; exact Blk.lt (by assumption))); (try have hN := Blk.pure hN hbc); (try have hN := Blk.new_pure hbc); (try have hN := Blk.new_pure_drew hbc); (try (have hN0 := Blk.get (i := 0) hN rfl; have hM0 := hN.frozen 0; have hN1 := Blk.get (i := 1) hN rfl; have hM1 := hN.frozen 1))))
    all_goals
      clear HSd
      go_wp2_with fail
      go_meet
      go_split_ands
      refine ⟨by assumption, by assumption, by assumption, by assumption, _, rfl, ?_, ?_⟩
      · first | exact Blk.put2 hN | exact Blk.new' rfl
      · omega
  case rest =>
    clear q1 q2
    obtain ⟨k0, k1, k2, hB0, g, rfl, k3, hg⟩ := hcut
    have k0_c0 : wc.cell? ⟨w.heap.size, 0, none⟩ = some (.int .i64 s) := Blk.get k0 rfl
    have k0_f0 : wc.frozen? ⟨w.heap.size, 0, none⟩ = false := Blk.frozen k0 0
    have k0_c1 : wc.cell? ⟨w.heap.size, 1, none⟩ = some (.int .i64 a) := Blk.get k0 rfl
    have k0_f1 : wc.frozen? ⟨w.heap.size, 1, none⟩ = false := Blk.frozen k0 1
    have k0_c2 : wc.cell? ⟨w.heap.size, 2, none⟩ = some (.int .i64 o) := Blk.get k0 rfl
    have k0_f2 : wc.frozen? ⟨w.heap.size, 2, none⟩ = false := Blk.frozen k0 2
    have k0_z : w.heap.size < wc.heap.size := Blk.lt k0
    clear k0
    have k1_c0 : wc.cell? ⟨w.heap.size + 1, 0, none⟩ = some (.int .i64 s') := Blk.get k1 rfl
    have k1_f0 : wc.frozen? ⟨w.heap.size + 1, 0, none⟩ = false := Blk.frozen k1 0
    have k1_c1 : wc.cell? ⟨w.heap.size + 1, 1, none⟩ = some (.int .i64 a') := Blk.get k1 rfl
    have k1_f1 : wc.frozen? ⟨w.heap.size + 1, 1, none⟩ = false := Blk.frozen k1 1
    have k1_c2 : wc.cell? ⟨w.heap.size + 1, 2, none⟩ = some (.int .i64 o') := Blk.get k1 rfl
    have k1_f2 : wc.frozen? ⟨w.heap.size + 1, 2, none⟩ = false := Blk.frozen k1 2
    have k1_z : w.heap.size + 1 < wc.heap.size := Blk.lt k1
    clear k1
    have k2_c0 : wc.cell? ⟨w.heap.size + 2, 0, none⟩ = some (.int .i64 0) := Blk.get k2 rfl
    have k2_f0 : wc.frozen? ⟨w.heap.size + 2, 0, none⟩ = false := Blk.frozen k2 0
    have k2_c1 : wc.cell? ⟨w.heap.size + 2, 1, none⟩ = some (.int .i64 0) := Blk.get k2 rfl
    have k2_f1 : wc.frozen? ⟨w.heap.size + 2, 1, none⟩ = false := Blk.frozen k2 1
    have k2_z : w.heap.size + 2 < wc.heap.size := Blk.lt k2
    clear k2
    have k3_c0 : wc.cell? ⟨g, 0, none⟩ = some (.int .i64 x) := Blk.get k3 rfl
    have k3_f0 : wc.frozen? ⟨g, 0, none⟩ = false := Blk.frozen k3 0
    have k3_c1 : wc.cell? ⟨g, 1, none⟩ = some (.int .i64 y) := Blk.get k3 rfl
    have k3_f1 : wc.frozen? ⟨g, 1, none⟩ = false := Blk.frozen k3 1
    have k3_z : g < wc.heap.size := Blk.lt k3
    clear k3
    cases hp : pitchB s a o
    · have HR := Lib.hid (show ofB s a o s' a' o' x y = false by simp [ofB, hp])
      go_wp2_with fail
      go_call (pitchValid_any _ _ _ _) as e c1 ⟨rfl, hb1⟩
      have hB1 := below_pure (w := w) (by go_grown) hb1
      have z0_1 : w.heap.size < c1.heap.size := Nat.lt_of_lt_of_le (by go_size) hb1.size
      have z1_1 : w.heap.size + 1 < c1.heap.size := Nat.lt_of_lt_of_le (by go_size) hb1.size
      have z2_1 : w.heap.size + 2 < c1.heap.size := Nat.lt_of_lt_of_le (by go_size) hb1.size
      have z3_1 : g < c1.heap.size := Nat.lt_of_lt_of_le (by go_size) hb1.size
      obtain ⟨hc1, hf1⟩ := bcell hb1
      clear hb1
      go_wp2
      refine bodyPost_ret (v := .tuple #[.agg #[.int .i64 0, .int .i64 0], .bool false]) (by simp [results, Try.results27, go_sem, *]) rfl ⟨by rw [HR.out]; rfl, by go_grown⟩
    cases hq : pitchB s' a' o'
    · have HR := Lib.hid (show ofB s a o s' a' o' x y = false by simp [ofB, hp, hq])
      go_wp2_with fail
      go_call (pitchValid_any _ _ _ _) as e c1 ⟨rfl, hb1⟩
      have hB1 := below_pure (w := w) (by go_grown) hb1
      have z0_1 : w.heap.size < c1.heap.size := Nat.lt_of_lt_of_le (by go_size) hb1.size
      have z1_1 : w.heap.size + 1 < c1.heap.size := Nat.lt_of_lt_of_le (by go_size) hb1.size
      have z2_1 : w.heap.size + 2 < c1.heap.size := Nat.lt_of_lt_of_le (by go_size) hb1.size
      have z3_1 : g < c1.heap.size := Nat.lt_of_lt_of_le (by go_size) hb1.size
      obtain ⟨hc1, hf1⟩ := bcell hb1
      clear hb1
      go_wp2_with fail
      go_call (pitchValid_any _ _ _ _) as e c2 ⟨rfl, hb2⟩
      have hB2 := below_pure (w := w) (by go_grown) hb2
      have z0_2 : w.heap.size < c2.heap.size := Nat.lt_of_lt_of_le (by go_size) hb2.size
      have z1_2 : w.heap.size + 1 < c2.heap.size := Nat.lt_of_lt_of_le (by go_size) hb2.size
      have z2_2 : w.heap.size + 2 < c2.heap.size := Nat.lt_of_lt_of_le (by go_size) hb2.size
      have z3_2 : g < c2.heap.size := Nat.lt_of_lt_of_le (by go_size) hb2.size
      obtain ⟨hc2, hf2⟩ := bcell hb2
      clear hb2
      go_wp2
      refine bodyPost_ret (v := .tuple #[.agg #[.int .i64 0, .int .i64 0], .bool false]) (by simp [results, Try.results27, go_sem, *]) rfl ⟨by rw [HR.out]; rfl, by go_grown⟩
    cases hi : intB x y
    · have HR := Lib.hid (show ofB s a o s' a' o' x y = false by simp [ofB, hp, hq, hi])
      go_wp2_with fail
      go_call (pitchValid_any _ _ _ _) as e c1 ⟨rfl, hb1⟩
      have hB1 := below_pure (w := w) (by go_grown) hb1
      have z0_1 : w.heap.size < c1.heap.size := Nat.lt_of_lt_of_le (by go_size) hb1.size
      have z1_1 : w.heap.size + 1 < c1.heap.size := Nat.lt_of_lt_of_le (by go_size) hb1.size
      have z2_1 : w.heap.size + 2 < c1.heap.size := Nat.lt_of_lt_of_le (by go_size) hb1.size
      have z3_1 : g < c1.heap.size := Nat.lt_of_lt_of_le (by go_size) hb1.size
      obtain ⟨hc1, hf1⟩ := bcell hb1
      clear hb1
      go_wp2_with fail
      go_call (pitchValid_any _ _ _ _) as e c2 ⟨rfl, hb2⟩
      have hB2 := below_pure (w := w) (by go_grown) hb2
      have z0_2 : w.heap.size < c2.heap.size := Nat.lt_of_lt_of_le (by go_size) hb2.size
      have z1_2 : w.heap.size + 1 < c2.heap.size := Nat.lt_of_lt_of_le (by go_size) hb2.size
      have z2_2 : w.heap.size + 2 < c2.heap.size := Nat.lt_of_lt_of_le (by go_size) hb2.size
      have z3_2 : g < c2.heap.size := Nat.lt_of_lt_of_le (by go_size) hb2.size
      obtain ⟨hc2, hf2⟩ := bcell hb2
      clear hb2
      go_wp2_with fail
      go_call (intervalValid_any _ _ _) as e c3 ⟨rfl, hb3⟩
      have hB3 := below_pure (w := w) (by go_grown) hb3
      have z0_3 : w.heap.size < c3.heap.size := Nat.lt_of_lt_of_le (by go_size) hb3.size
      have z1_3 : w.heap.size + 1 < c3.heap.size := Nat.lt_of_lt_of_le (by go_size) hb3.size
      have z2_3 : w.heap.size + 2 < c3.heap.size := Nat.lt_of_lt_of_le (by go_size) hb3.size
      have z3_3 : g < c3.heap.size := Nat.lt_of_lt_of_le (by go_size) hb3.size
      obtain ⟨hc3, hf3⟩ := bcell hb3
      clear hb3
      go_wp2
      refine bodyPost_ret (v := .tuple #[.agg #[.int .i64 0, .int .i64 0], .bool false]) (by simp [results, Try.results27, go_sem, *]) rfl ⟨by rw [HR.out]; rfl, by go_grown⟩
    · have HR := Lib.hid (show ofB s a o s' a' o' x y = true by simp [ofB, hp, hq, hi])
      go_wp2_with fail
      go_call (pitchValid_any _ _ _ _) as e c1 ⟨rfl, hb1⟩
      have hB1 := below_pure (w := w) (by go_grown) hb1
      have z0_1 : w.heap.size < c1.heap.size := Nat.lt_of_lt_of_le (by go_size) hb1.size
      have z1_1 : w.heap.size + 1 < c1.heap.size := Nat.lt_of_lt_of_le (by go_size) hb1.size
      have z2_1 : w.heap.size + 2 < c1.heap.size := Nat.lt_of_lt_of_le (by go_size) hb1.size
      have z3_1 : g < c1.heap.size := Nat.lt_of_lt_of_le (by go_size) hb1.size
      obtain ⟨hc1, hf1⟩ := bcell hb1
      clear hb1
      go_wp2_with fail
      go_call (pitchValid_any _ _ _ _) as e c2 ⟨rfl, hb2⟩
      have hB2 := below_pure (w := w) (by go_grown) hb2
      have z0_2 : w.heap.size < c2.heap.size := Nat.lt_of_lt_of_le (by go_size) hb2.size
      have z1_2 : w.heap.size + 1 < c2.heap.size := Nat.lt_of_lt_of_le (by go_size) hb2.size
      have z2_2 : w.heap.size + 2 < c2.heap.size := Nat.lt_of_lt_of_le (by go_size) hb2.size
      have z3_2 : g < c2.heap.size := Nat.lt_of_lt_of_le (by go_size) hb2.size
      obtain ⟨hc2, hf2⟩ := bcell hb2
      clear hb2
      go_wp2_with fail
      go_call (intervalValid_any _ _ _) as e c3 ⟨rfl, hb3⟩
      have hB3 := below_pure (w := w) (by go_grown) hb3
      have z0_3 : w.heap.size < c3.heap.size := Nat.lt_of_lt_of_le (by go_size) hb3.size
      have z1_3 : w.heap.size + 1 < c3.heap.size := Nat.lt_of_lt_of_le (by go_size) hb3.size
      have z2_3 : w.heap.size + 2 < c3.heap.size := Nat.lt_of_lt_of_le (by go_size) hb3.size
      have z3_3 : g < c3.heap.size := Nat.lt_of_lt_of_le (by go_size) hb3.size
      obtain ⟨hc3, hf3⟩ := bcell hb3
      clear hb3
      go_wp2
      refine bodyPost_ret (v := .tuple #[.agg #[.int .i64 x, .int .i64 y], .bool true]) (by simp [results, Try.results27, go_sem, *]) rfl ⟨by rw [HR.out]; rfl, by go_grown⟩
set_option maxHeartbeats 4000000 in
theorem specIntervalOf_any (s a o s' a' o' : Int) (w : World) (x y : Int) (hx : placeV s' a' o' - placeV s a o = x) (hy : keyV s' a' o' - keyV s a o = y) :
    Calls Try.prog 25 #[.agg #[.int .i64 s, .int .i64 a, .int .i64 o], .agg #[.int .i64 s', .int .i64 a', .int .i64 o']] w
      (Gives (.tuple #[.agg #[.int .i64 (ofX (ofB s a o s' a' o' x y) x), .int .i64 (ofX (ofB s a o s' a' o' x y) y)], .bool (ofB s a o s' a' o' x y)]) w) := by
  obtain ⟨b0, b1⟩ := placeV_bd s a o
  obtain ⟨b2, b3⟩ := placeV_bd s' a' o'
  obtain ⟨b4, b5⟩ := keyV_bd s a o
  obtain ⟨b6, b7⟩ := keyV_bd s' a' o'
  have q1 : IntKind.i64.wrap (placeV s' a' o' - placeV s a o) = x := by rw [← hx]; exact IntWalk.i64_in _ (by omega)
  have q2 : IntKind.i64.wrap (keyV s' a' o' - keyV s a o) = y := by rw [← hy]; exact IntWalk.i64_in _ (by omega)
  have Q1 := Lib.hid q1
  have Q2 := Lib.hid q2
  clear hx hy b0 b1 b2 b3 b4 b5 b6 b7 q1 q2
  cases hp : pitchB s a o
  · have HR := Lib.hid (show ofB s a o s' a' o' x y = false by simp [ofB, hp])
    go_enter Try.func25, Try.ntmps25
    go_wp2_with fail
    have k0 : Blk (((w.alloc (Obj.cells #[.int .i64 s, .int .i64 a, .int .i64 o] 36)).alloc (Obj.cells #[.int .i64 s', .int .i64 a', .int .i64 o'] 36)).alloc (Obj.cells #[.int .i64 0, .int .i64 0] 25)) (w.heap.size) 36 #[.int .i64 s, .int .i64 a, .int .i64 o] := (by repeat' (first | (with_reducible assumption) | (with_reducible exact Blk.new _ _ _) | (with_reducible exact Blk.new' (by simp)) | (with_reducible refine Blk.alloc ?_ _) | (with_reducible refine Blk.drew ?_) | (with_reducible refine Blk.drewN ?_ _) | (with_reducible refine Blk.ne ?_ ?_ _) | omega | (simp; omega)))
    have k1 : Blk (((w.alloc (Obj.cells #[.int .i64 s, .int .i64 a, .int .i64 o] 36)).alloc (Obj.cells #[.int .i64 s', .int .i64 a', .int .i64 o'] 36)).alloc (Obj.cells #[.int .i64 0, .int .i64 0] 25)) (w.heap.size + 1) 36 #[.int .i64 s', .int .i64 a', .int .i64 o'] := (by repeat' (first | (with_reducible assumption) | (with_reducible exact Blk.new _ _ _) | (with_reducible exact Blk.new' (by simp)) | (with_reducible refine Blk.alloc ?_ _) | (with_reducible refine Blk.drew ?_) | (with_reducible refine Blk.drewN ?_ _) | (with_reducible refine Blk.ne ?_ ?_ _) | omega | (simp; omega)))
    have k2 : Blk (((w.alloc (Obj.cells #[.int .i64 s, .int .i64 a, .int .i64 o] 36)).alloc (Obj.cells #[.int .i64 s', .int .i64 a', .int .i64 o'] 36)).alloc (Obj.cells #[.int .i64 0, .int .i64 0] 25)) (w.heap.size + 2) 25 #[.int .i64 0, .int .i64 0] := (by repeat' (first | (with_reducible assumption) | (with_reducible exact Blk.new _ _ _) | (with_reducible exact Blk.new' (by simp)) | (with_reducible refine Blk.alloc ?_ _) | (with_reducible refine Blk.drew ?_) | (with_reducible refine Blk.drewN ?_ _) | (with_reducible refine Blk.ne ?_ ?_ _) | omega | (simp; omega)))
    have hB : Below w.heap.size w (((w.alloc (Obj.cells #[.int .i64 s, .int .i64 a, .int .i64 o] 36)).alloc (Obj.cells #[.int .i64 s', .int .i64 a', .int .i64 o'] 36)).alloc (Obj.cells #[.int .i64 0, .int .i64 0] 25)) := by go_grown
    generalize (((w.alloc (Obj.cells #[.int .i64 s, .int .i64 a, .int .i64 o] 36)).alloc (Obj.cells #[.int .i64 s', .int .i64 a', .int .i64 o'] 36)).alloc (Obj.cells #[.int .i64 0, .int .i64 0] 25)) = c0 at *
    have k0_c0 : c0.cell? ⟨w.heap.size, 0, none⟩ = some (.int .i64 s) := Blk.get k0 rfl
    have k0_f0 : c0.frozen? ⟨w.heap.size, 0, none⟩ = false := Blk.frozen k0 0
    have k0_c1 : c0.cell? ⟨w.heap.size, 1, none⟩ = some (.int .i64 a) := Blk.get k0 rfl
    have k0_f1 : c0.frozen? ⟨w.heap.size, 1, none⟩ = false := Blk.frozen k0 1
    have k0_c2 : c0.cell? ⟨w.heap.size, 2, none⟩ = some (.int .i64 o) := Blk.get k0 rfl
    have k0_f2 : c0.frozen? ⟨w.heap.size, 2, none⟩ = false := Blk.frozen k0 2
    have k0_z : w.heap.size < c0.heap.size := Blk.lt k0
    have k1_c0 : c0.cell? ⟨w.heap.size + 1, 0, none⟩ = some (.int .i64 s') := Blk.get k1 rfl
    have k1_f0 : c0.frozen? ⟨w.heap.size + 1, 0, none⟩ = false := Blk.frozen k1 0
    have k1_c1 : c0.cell? ⟨w.heap.size + 1, 1, none⟩ = some (.int .i64 a') := Blk.get k1 rfl
    have k1_f1 : c0.frozen? ⟨w.heap.size + 1, 1, none⟩ = false := Blk.frozen k1 1
    have k1_c2 : c0.cell? ⟨w.heap.size + 1, 2, none⟩ = some (.int .i64 o') := Blk.get k1 rfl
    have k1_f2 : c0.frozen? ⟨w.heap.size + 1, 2, none⟩ = false := Blk.frozen k1 2
    have k1_z : w.heap.size + 1 < c0.heap.size := Blk.lt k1
    have k2_c0 : c0.cell? ⟨w.heap.size + 2, 0, none⟩ = some (.int .i64 0) := Blk.get k2 rfl
    have k2_f0 : c0.frozen? ⟨w.heap.size + 2, 0, none⟩ = false := Blk.frozen k2 0
    have k2_c1 : c0.cell? ⟨w.heap.size + 2, 1, none⟩ = some (.int .i64 0) := Blk.get k2 rfl
    have k2_f1 : c0.frozen? ⟨w.heap.size + 2, 1, none⟩ = false := Blk.frozen k2 1
    have k2_z : w.heap.size + 2 < c0.heap.size := Blk.lt k2
    go_call (specPitchValid_any _ _ _ _) as e c1 ⟨rfl, hb⟩
    replace k0 : Blk c1 (w.heap.size) 36 #[.int .i64 s, .int .i64 a, .int .i64 o] := Blk.pure (by repeat' (first | (with_reducible assumption) | (with_reducible exact Blk.new _ _ _) | (with_reducible exact Blk.new' (by simp)) | (with_reducible refine Blk.alloc ?_ _) | (with_reducible refine Blk.drew ?_) | (with_reducible refine Blk.drewN ?_ _) | (with_reducible refine Blk.ne ?_ ?_ _) | omega | (simp; omega))) hb
    replace k1 : Blk c1 (w.heap.size + 1) 36 #[.int .i64 s', .int .i64 a', .int .i64 o'] := Blk.pure (by repeat' (first | (with_reducible assumption) | (with_reducible exact Blk.new _ _ _) | (with_reducible exact Blk.new' (by simp)) | (with_reducible refine Blk.alloc ?_ _) | (with_reducible refine Blk.drew ?_) | (with_reducible refine Blk.drewN ?_ _) | (with_reducible refine Blk.ne ?_ ?_ _) | omega | (simp; omega))) hb
    replace k2 : Blk c1 (w.heap.size + 2) 25 #[.int .i64 0, .int .i64 0] := Blk.pure (by repeat' (first | (with_reducible assumption) | (with_reducible exact Blk.new _ _ _) | (with_reducible exact Blk.new' (by simp)) | (with_reducible refine Blk.alloc ?_ _) | (with_reducible refine Blk.drew ?_) | (with_reducible refine Blk.drewN ?_ _) | (with_reducible refine Blk.ne ?_ ?_ _) | omega | (simp; omega))) hb
    replace hB := below_pure (w := w) (by go_grown) hb
    clear hb
    clear k0_c0 k0_f0 k0_c1 k0_f1 k0_c2 k0_f2 k0_z k1_c0 k1_f0 k1_c1 k1_f1 k1_c2 k1_f2 k1_z k2_c0 k2_f0 k2_c1 k2_f1 k2_z
    have k0_c0 : c1.cell? ⟨w.heap.size, 0, none⟩ = some (.int .i64 s) := Blk.get k0 rfl
    have k0_f0 : c1.frozen? ⟨w.heap.size, 0, none⟩ = false := Blk.frozen k0 0
    have k0_c1 : c1.cell? ⟨w.heap.size, 1, none⟩ = some (.int .i64 a) := Blk.get k0 rfl
    have k0_f1 : c1.frozen? ⟨w.heap.size, 1, none⟩ = false := Blk.frozen k0 1
    have k0_c2 : c1.cell? ⟨w.heap.size, 2, none⟩ = some (.int .i64 o) := Blk.get k0 rfl
    have k0_f2 : c1.frozen? ⟨w.heap.size, 2, none⟩ = false := Blk.frozen k0 2
    have k0_z : w.heap.size < c1.heap.size := Blk.lt k0
    have k1_c0 : c1.cell? ⟨w.heap.size + 1, 0, none⟩ = some (.int .i64 s') := Blk.get k1 rfl
    have k1_f0 : c1.frozen? ⟨w.heap.size + 1, 0, none⟩ = false := Blk.frozen k1 0
    have k1_c1 : c1.cell? ⟨w.heap.size + 1, 1, none⟩ = some (.int .i64 a') := Blk.get k1 rfl
    have k1_f1 : c1.frozen? ⟨w.heap.size + 1, 1, none⟩ = false := Blk.frozen k1 1
    have k1_c2 : c1.cell? ⟨w.heap.size + 1, 2, none⟩ = some (.int .i64 o') := Blk.get k1 rfl
    have k1_f2 : c1.frozen? ⟨w.heap.size + 1, 2, none⟩ = false := Blk.frozen k1 2
    have k1_z : w.heap.size + 1 < c1.heap.size := Blk.lt k1
    have k2_c0 : c1.cell? ⟨w.heap.size + 2, 0, none⟩ = some (.int .i64 0) := Blk.get k2 rfl
    have k2_f0 : c1.frozen? ⟨w.heap.size + 2, 0, none⟩ = false := Blk.frozen k2 0
    have k2_c1 : c1.cell? ⟨w.heap.size + 2, 1, none⟩ = some (.int .i64 0) := Blk.get k2 rfl
    have k2_f1 : c1.frozen? ⟨w.heap.size + 2, 1, none⟩ = false := Blk.frozen k2 1
    have k2_z : w.heap.size + 2 < c1.heap.size := Blk.lt k2
    go_wp2
    refine bodyPost_ret (v := .tuple #[.agg #[.int .i64 0, .int .i64 0], .bool false]) (by simp [results, Try.results25, go_sem, *]) rfl ⟨by rw [HR.out]; rfl, by go_grown⟩
  cases hq : pitchB s' a' o'
  · have HR := Lib.hid (show ofB s a o s' a' o' x y = false by simp [ofB, hp, hq])
    go_enter Try.func25, Try.ntmps25
    go_wp2_with fail
    have k0 : Blk (((w.alloc (Obj.cells #[.int .i64 s, .int .i64 a, .int .i64 o] 36)).alloc (Obj.cells #[.int .i64 s', .int .i64 a', .int .i64 o'] 36)).alloc (Obj.cells #[.int .i64 0, .int .i64 0] 25)) (w.heap.size) 36 #[.int .i64 s, .int .i64 a, .int .i64 o] := (by repeat' (first | (with_reducible assumption) | (with_reducible exact Blk.new _ _ _) | (with_reducible exact Blk.new' (by simp)) | (with_reducible refine Blk.alloc ?_ _) | (with_reducible refine Blk.drew ?_) | (with_reducible refine Blk.drewN ?_ _) | (with_reducible refine Blk.ne ?_ ?_ _) | omega | (simp; omega)))
    have k1 : Blk (((w.alloc (Obj.cells #[.int .i64 s, .int .i64 a, .int .i64 o] 36)).alloc (Obj.cells #[.int .i64 s', .int .i64 a', .int .i64 o'] 36)).alloc (Obj.cells #[.int .i64 0, .int .i64 0] 25)) (w.heap.size + 1) 36 #[.int .i64 s', .int .i64 a', .int .i64 o'] := (by repeat' (first | (with_reducible assumption) | (with_reducible exact Blk.new _ _ _) | (with_reducible exact Blk.new' (by simp)) | (with_reducible refine Blk.alloc ?_ _) | (with_reducible refine Blk.drew ?_) | (with_reducible refine Blk.drewN ?_ _) | (with_reducible refine Blk.ne ?_ ?_ _) | omega | (simp; omega)))
    have k2 : Blk (((w.alloc (Obj.cells #[.int .i64 s, .int .i64 a, .int .i64 o] 36)).alloc (Obj.cells #[.int .i64 s', .int .i64 a', .int .i64 o'] 36)).alloc (Obj.cells #[.int .i64 0, .int .i64 0] 25)) (w.heap.size + 2) 25 #[.int .i64 0, .int .i64 0] := (by repeat' (first | (with_reducible assumption) | (with_reducible exact Blk.new _ _ _) | (with_reducible exact Blk.new' (by simp)) | (with_reducible refine Blk.alloc ?_ _) | (with_reducible refine Blk.drew ?_) | (with_reducible refine Blk.drewN ?_ _) | (with_reducible refine Blk.ne ?_ ?_ _) | omega | (simp; omega)))
    have hB : Below w.heap.size w (((w.alloc (Obj.cells #[.int .i64 s, .int .i64 a, .int .i64 o] 36)).alloc (Obj.cells #[.int .i64 s', .int .i64 a', .int .i64 o'] 36)).alloc (Obj.cells #[.int .i64 0, .int .i64 0] 25)) := by go_grown
    generalize (((w.alloc (Obj.cells #[.int .i64 s, .int .i64 a, .int .i64 o] 36)).alloc (Obj.cells #[.int .i64 s', .int .i64 a', .int .i64 o'] 36)).alloc (Obj.cells #[.int .i64 0, .int .i64 0] 25)) = c0 at *
    have k0_c0 : c0.cell? ⟨w.heap.size, 0, none⟩ = some (.int .i64 s) := Blk.get k0 rfl
    have k0_f0 : c0.frozen? ⟨w.heap.size, 0, none⟩ = false := Blk.frozen k0 0
    have k0_c1 : c0.cell? ⟨w.heap.size, 1, none⟩ = some (.int .i64 a) := Blk.get k0 rfl
    have k0_f1 : c0.frozen? ⟨w.heap.size, 1, none⟩ = false := Blk.frozen k0 1
    have k0_c2 : c0.cell? ⟨w.heap.size, 2, none⟩ = some (.int .i64 o) := Blk.get k0 rfl
    have k0_f2 : c0.frozen? ⟨w.heap.size, 2, none⟩ = false := Blk.frozen k0 2
    have k0_z : w.heap.size < c0.heap.size := Blk.lt k0
    have k1_c0 : c0.cell? ⟨w.heap.size + 1, 0, none⟩ = some (.int .i64 s') := Blk.get k1 rfl
    have k1_f0 : c0.frozen? ⟨w.heap.size + 1, 0, none⟩ = false := Blk.frozen k1 0
    have k1_c1 : c0.cell? ⟨w.heap.size + 1, 1, none⟩ = some (.int .i64 a') := Blk.get k1 rfl
    have k1_f1 : c0.frozen? ⟨w.heap.size + 1, 1, none⟩ = false := Blk.frozen k1 1
    have k1_c2 : c0.cell? ⟨w.heap.size + 1, 2, none⟩ = some (.int .i64 o') := Blk.get k1 rfl
    have k1_f2 : c0.frozen? ⟨w.heap.size + 1, 2, none⟩ = false := Blk.frozen k1 2
    have k1_z : w.heap.size + 1 < c0.heap.size := Blk.lt k1
    have k2_c0 : c0.cell? ⟨w.heap.size + 2, 0, none⟩ = some (.int .i64 0) := Blk.get k2 rfl
    have k2_f0 : c0.frozen? ⟨w.heap.size + 2, 0, none⟩ = false := Blk.frozen k2 0
    have k2_c1 : c0.cell? ⟨w.heap.size + 2, 1, none⟩ = some (.int .i64 0) := Blk.get k2 rfl
    have k2_f1 : c0.frozen? ⟨w.heap.size + 2, 1, none⟩ = false := Blk.frozen k2 1
    have k2_z : w.heap.size + 2 < c0.heap.size := Blk.lt k2
    go_call (specPitchValid_any _ _ _ _) as e c1 ⟨rfl, hb⟩
    replace k0 : Blk c1 (w.heap.size) 36 #[.int .i64 s, .int .i64 a, .int .i64 o] := Blk.pure (by repeat' (first | (with_reducible assumption) | (with_reducible exact Blk.new _ _ _) | (with_reducible exact Blk.new' (by simp)) | (with_reducible refine Blk.alloc ?_ _) | (with_reducible refine Blk.drew ?_) | (with_reducible refine Blk.drewN ?_ _) | (with_reducible refine Blk.ne ?_ ?_ _) | omega | (simp; omega))) hb
    replace k1 : Blk c1 (w.heap.size + 1) 36 #[.int .i64 s', .int .i64 a', .int .i64 o'] := Blk.pure (by repeat' (first | (with_reducible assumption) | (with_reducible exact Blk.new _ _ _) | (with_reducible exact Blk.new' (by simp)) | (with_reducible refine Blk.alloc ?_ _) | (with_reducible refine Blk.drew ?_) | (with_reducible refine Blk.drewN ?_ _) | (with_reducible refine Blk.ne ?_ ?_ _) | omega | (simp; omega))) hb
    replace k2 : Blk c1 (w.heap.size + 2) 25 #[.int .i64 0, .int .i64 0] := Blk.pure (by repeat' (first | (with_reducible assumption) | (with_reducible exact Blk.new _ _ _) | (with_reducible exact Blk.new' (by simp)) | (with_reducible refine Blk.alloc ?_ _) | (with_reducible refine Blk.drew ?_) | (with_reducible refine Blk.drewN ?_ _) | (with_reducible refine Blk.ne ?_ ?_ _) | omega | (simp; omega))) hb
    replace hB := below_pure (w := w) (by go_grown) hb
    clear hb
    clear k0_c0 k0_f0 k0_c1 k0_f1 k0_c2 k0_f2 k0_z k1_c0 k1_f0 k1_c1 k1_f1 k1_c2 k1_f2 k1_z k2_c0 k2_f0 k2_c1 k2_f1 k2_z
    have k0_c0 : c1.cell? ⟨w.heap.size, 0, none⟩ = some (.int .i64 s) := Blk.get k0 rfl
    have k0_f0 : c1.frozen? ⟨w.heap.size, 0, none⟩ = false := Blk.frozen k0 0
    have k0_c1 : c1.cell? ⟨w.heap.size, 1, none⟩ = some (.int .i64 a) := Blk.get k0 rfl
    have k0_f1 : c1.frozen? ⟨w.heap.size, 1, none⟩ = false := Blk.frozen k0 1
    have k0_c2 : c1.cell? ⟨w.heap.size, 2, none⟩ = some (.int .i64 o) := Blk.get k0 rfl
    have k0_f2 : c1.frozen? ⟨w.heap.size, 2, none⟩ = false := Blk.frozen k0 2
    have k0_z : w.heap.size < c1.heap.size := Blk.lt k0
    have k1_c0 : c1.cell? ⟨w.heap.size + 1, 0, none⟩ = some (.int .i64 s') := Blk.get k1 rfl
    have k1_f0 : c1.frozen? ⟨w.heap.size + 1, 0, none⟩ = false := Blk.frozen k1 0
    have k1_c1 : c1.cell? ⟨w.heap.size + 1, 1, none⟩ = some (.int .i64 a') := Blk.get k1 rfl
    have k1_f1 : c1.frozen? ⟨w.heap.size + 1, 1, none⟩ = false := Blk.frozen k1 1
    have k1_c2 : c1.cell? ⟨w.heap.size + 1, 2, none⟩ = some (.int .i64 o') := Blk.get k1 rfl
    have k1_f2 : c1.frozen? ⟨w.heap.size + 1, 2, none⟩ = false := Blk.frozen k1 2
    have k1_z : w.heap.size + 1 < c1.heap.size := Blk.lt k1
    have k2_c0 : c1.cell? ⟨w.heap.size + 2, 0, none⟩ = some (.int .i64 0) := Blk.get k2 rfl
    have k2_f0 : c1.frozen? ⟨w.heap.size + 2, 0, none⟩ = false := Blk.frozen k2 0
    have k2_c1 : c1.cell? ⟨w.heap.size + 2, 1, none⟩ = some (.int .i64 0) := Blk.get k2 rfl
    have k2_f1 : c1.frozen? ⟨w.heap.size + 2, 1, none⟩ = false := Blk.frozen k2 1
    have k2_z : w.heap.size + 2 < c1.heap.size := Blk.lt k2
    go_wp2_with fail
    go_call (specPitchValid_any _ _ _ _) as e c2 ⟨rfl, hb⟩
    replace k0 : Blk c2 (w.heap.size) 36 #[.int .i64 s, .int .i64 a, .int .i64 o] := Blk.pure (by repeat' (first | (with_reducible assumption) | (with_reducible exact Blk.new _ _ _) | (with_reducible exact Blk.new' (by simp)) | (with_reducible refine Blk.alloc ?_ _) | (with_reducible refine Blk.drew ?_) | (with_reducible refine Blk.drewN ?_ _) | (with_reducible refine Blk.ne ?_ ?_ _) | omega | (simp; omega))) hb
    replace k1 : Blk c2 (w.heap.size + 1) 36 #[.int .i64 s', .int .i64 a', .int .i64 o'] := Blk.pure (by repeat' (first | (with_reducible assumption) | (with_reducible exact Blk.new _ _ _) | (with_reducible exact Blk.new' (by simp)) | (with_reducible refine Blk.alloc ?_ _) | (with_reducible refine Blk.drew ?_) | (with_reducible refine Blk.drewN ?_ _) | (with_reducible refine Blk.ne ?_ ?_ _) | omega | (simp; omega))) hb
    replace k2 : Blk c2 (w.heap.size + 2) 25 #[.int .i64 0, .int .i64 0] := Blk.pure (by repeat' (first | (with_reducible assumption) | (with_reducible exact Blk.new _ _ _) | (with_reducible exact Blk.new' (by simp)) | (with_reducible refine Blk.alloc ?_ _) | (with_reducible refine Blk.drew ?_) | (with_reducible refine Blk.drewN ?_ _) | (with_reducible refine Blk.ne ?_ ?_ _) | omega | (simp; omega))) hb
    replace hB := below_pure (w := w) (by go_grown) hb
    clear hb
    clear k0_c0 k0_f0 k0_c1 k0_f1 k0_c2 k0_f2 k0_z k1_c0 k1_f0 k1_c1 k1_f1 k1_c2 k1_f2 k1_z k2_c0 k2_f0 k2_c1 k2_f1 k2_z
    have k0_c0 : c2.cell? ⟨w.heap.size, 0, none⟩ = some (.int .i64 s) := Blk.get k0 rfl
    have k0_f0 : c2.frozen? ⟨w.heap.size, 0, none⟩ = false := Blk.frozen k0 0
    have k0_c1 : c2.cell? ⟨w.heap.size, 1, none⟩ = some (.int .i64 a) := Blk.get k0 rfl
    have k0_f1 : c2.frozen? ⟨w.heap.size, 1, none⟩ = false := Blk.frozen k0 1
    have k0_c2 : c2.cell? ⟨w.heap.size, 2, none⟩ = some (.int .i64 o) := Blk.get k0 rfl
    have k0_f2 : c2.frozen? ⟨w.heap.size, 2, none⟩ = false := Blk.frozen k0 2
    have k0_z : w.heap.size < c2.heap.size := Blk.lt k0
    have k1_c0 : c2.cell? ⟨w.heap.size + 1, 0, none⟩ = some (.int .i64 s') := Blk.get k1 rfl
    have k1_f0 : c2.frozen? ⟨w.heap.size + 1, 0, none⟩ = false := Blk.frozen k1 0
    have k1_c1 : c2.cell? ⟨w.heap.size + 1, 1, none⟩ = some (.int .i64 a') := Blk.get k1 rfl
    have k1_f1 : c2.frozen? ⟨w.heap.size + 1, 1, none⟩ = false := Blk.frozen k1 1
    have k1_c2 : c2.cell? ⟨w.heap.size + 1, 2, none⟩ = some (.int .i64 o') := Blk.get k1 rfl
    have k1_f2 : c2.frozen? ⟨w.heap.size + 1, 2, none⟩ = false := Blk.frozen k1 2
    have k1_z : w.heap.size + 1 < c2.heap.size := Blk.lt k1
    have k2_c0 : c2.cell? ⟨w.heap.size + 2, 0, none⟩ = some (.int .i64 0) := Blk.get k2 rfl
    have k2_f0 : c2.frozen? ⟨w.heap.size + 2, 0, none⟩ = false := Blk.frozen k2 0
    have k2_c1 : c2.cell? ⟨w.heap.size + 2, 1, none⟩ = some (.int .i64 0) := Blk.get k2 rfl
    have k2_f1 : c2.frozen? ⟨w.heap.size + 2, 1, none⟩ = false := Blk.frozen k2 1
    have k2_z : w.heap.size + 2 < c2.heap.size := Blk.lt k2
    go_wp2
    refine bodyPost_ret (v := .tuple #[.agg #[.int .i64 0, .int .i64 0], .bool false]) (by simp [results, Try.results25, go_sem, *]) rfl ⟨by rw [HR.out]; rfl, by go_grown⟩
  go_enter Try.func25, Try.ntmps25
  go_wp2_with fail
  have k0 : Blk (((w.alloc (Obj.cells #[.int .i64 s, .int .i64 a, .int .i64 o] 36)).alloc (Obj.cells #[.int .i64 s', .int .i64 a', .int .i64 o'] 36)).alloc (Obj.cells #[.int .i64 0, .int .i64 0] 25)) (w.heap.size) 36 #[.int .i64 s, .int .i64 a, .int .i64 o] := (by repeat' (first | (with_reducible assumption) | (with_reducible exact Blk.new _ _ _) | (with_reducible exact Blk.new' (by simp)) | (with_reducible refine Blk.alloc ?_ _) | (with_reducible refine Blk.drew ?_) | (with_reducible refine Blk.drewN ?_ _) | (with_reducible refine Blk.ne ?_ ?_ _) | omega | (simp; omega)))
  have k1 : Blk (((w.alloc (Obj.cells #[.int .i64 s, .int .i64 a, .int .i64 o] 36)).alloc (Obj.cells #[.int .i64 s', .int .i64 a', .int .i64 o'] 36)).alloc (Obj.cells #[.int .i64 0, .int .i64 0] 25)) (w.heap.size + 1) 36 #[.int .i64 s', .int .i64 a', .int .i64 o'] := (by repeat' (first | (with_reducible assumption) | (with_reducible exact Blk.new _ _ _) | (with_reducible exact Blk.new' (by simp)) | (with_reducible refine Blk.alloc ?_ _) | (with_reducible refine Blk.drew ?_) | (with_reducible refine Blk.drewN ?_ _) | (with_reducible refine Blk.ne ?_ ?_ _) | omega | (simp; omega)))
  have k2 : Blk (((w.alloc (Obj.cells #[.int .i64 s, .int .i64 a, .int .i64 o] 36)).alloc (Obj.cells #[.int .i64 s', .int .i64 a', .int .i64 o'] 36)).alloc (Obj.cells #[.int .i64 0, .int .i64 0] 25)) (w.heap.size + 2) 25 #[.int .i64 0, .int .i64 0] := (by repeat' (first | (with_reducible assumption) | (with_reducible exact Blk.new _ _ _) | (with_reducible exact Blk.new' (by simp)) | (with_reducible refine Blk.alloc ?_ _) | (with_reducible refine Blk.drew ?_) | (with_reducible refine Blk.drewN ?_ _) | (with_reducible refine Blk.ne ?_ ?_ _) | omega | (simp; omega)))
  have hB : Below w.heap.size w (((w.alloc (Obj.cells #[.int .i64 s, .int .i64 a, .int .i64 o] 36)).alloc (Obj.cells #[.int .i64 s', .int .i64 a', .int .i64 o'] 36)).alloc (Obj.cells #[.int .i64 0, .int .i64 0] 25)) := by go_grown
  generalize (((w.alloc (Obj.cells #[.int .i64 s, .int .i64 a, .int .i64 o] 36)).alloc (Obj.cells #[.int .i64 s', .int .i64 a', .int .i64 o'] 36)).alloc (Obj.cells #[.int .i64 0, .int .i64 0] 25)) = c0 at *
  have k0_c0 : c0.cell? ⟨w.heap.size, 0, none⟩ = some (.int .i64 s) := Blk.get k0 rfl
  have k0_f0 : c0.frozen? ⟨w.heap.size, 0, none⟩ = false := Blk.frozen k0 0
  have k0_c1 : c0.cell? ⟨w.heap.size, 1, none⟩ = some (.int .i64 a) := Blk.get k0 rfl
  have k0_f1 : c0.frozen? ⟨w.heap.size, 1, none⟩ = false := Blk.frozen k0 1
  have k0_c2 : c0.cell? ⟨w.heap.size, 2, none⟩ = some (.int .i64 o) := Blk.get k0 rfl
  have k0_f2 : c0.frozen? ⟨w.heap.size, 2, none⟩ = false := Blk.frozen k0 2
  have k0_z : w.heap.size < c0.heap.size := Blk.lt k0
  have k1_c0 : c0.cell? ⟨w.heap.size + 1, 0, none⟩ = some (.int .i64 s') := Blk.get k1 rfl
  have k1_f0 : c0.frozen? ⟨w.heap.size + 1, 0, none⟩ = false := Blk.frozen k1 0
  have k1_c1 : c0.cell? ⟨w.heap.size + 1, 1, none⟩ = some (.int .i64 a') := Blk.get k1 rfl
  have k1_f1 : c0.frozen? ⟨w.heap.size + 1, 1, none⟩ = false := Blk.frozen k1 1
  have k1_c2 : c0.cell? ⟨w.heap.size + 1, 2, none⟩ = some (.int .i64 o') := Blk.get k1 rfl
  have k1_f2 : c0.frozen? ⟨w.heap.size + 1, 2, none⟩ = false := Blk.frozen k1 2
  have k1_z : w.heap.size + 1 < c0.heap.size := Blk.lt k1
  have k2_c0 : c0.cell? ⟨w.heap.size + 2, 0, none⟩ = some (.int .i64 0) := Blk.get k2 rfl
  have k2_f0 : c0.frozen? ⟨w.heap.size + 2, 0, none⟩ = false := Blk.frozen k2 0
  have k2_c1 : c0.cell? ⟨w.heap.size + 2, 1, none⟩ = some (.int .i64 0) := Blk.get k2 rfl
  have k2_f1 : c0.frozen? ⟨w.heap.size + 2, 1, none⟩ = false := Blk.frozen k2 1
  have k2_z : w.heap.size + 2 < c0.heap.size := Blk.lt k2
  go_call (specPitchValid_any _ _ _ _) as e c1 ⟨rfl, hb⟩
  replace k0 : Blk c1 (w.heap.size) 36 #[.int .i64 s, .int .i64 a, .int .i64 o] := Blk.pure (by repeat' (first | (with_reducible assumption) | (with_reducible exact Blk.new _ _ _) | (with_reducible exact Blk.new' (by simp)) | (with_reducible refine Blk.alloc ?_ _) | (with_reducible refine Blk.drew ?_) | (with_reducible refine Blk.drewN ?_ _) | (with_reducible refine Blk.ne ?_ ?_ _) | omega | (simp; omega))) hb
  replace k1 : Blk c1 (w.heap.size + 1) 36 #[.int .i64 s', .int .i64 a', .int .i64 o'] := Blk.pure (by repeat' (first | (with_reducible assumption) | (with_reducible exact Blk.new _ _ _) | (with_reducible exact Blk.new' (by simp)) | (with_reducible refine Blk.alloc ?_ _) | (with_reducible refine Blk.drew ?_) | (with_reducible refine Blk.drewN ?_ _) | (with_reducible refine Blk.ne ?_ ?_ _) | omega | (simp; omega))) hb
  replace k2 : Blk c1 (w.heap.size + 2) 25 #[.int .i64 0, .int .i64 0] := Blk.pure (by repeat' (first | (with_reducible assumption) | (with_reducible exact Blk.new _ _ _) | (with_reducible exact Blk.new' (by simp)) | (with_reducible refine Blk.alloc ?_ _) | (with_reducible refine Blk.drew ?_) | (with_reducible refine Blk.drewN ?_ _) | (with_reducible refine Blk.ne ?_ ?_ _) | omega | (simp; omega))) hb
  replace hB := below_pure (w := w) (by go_grown) hb
  clear hb
  clear k0_c0 k0_f0 k0_c1 k0_f1 k0_c2 k0_f2 k0_z k1_c0 k1_f0 k1_c1 k1_f1 k1_c2 k1_f2 k1_z k2_c0 k2_f0 k2_c1 k2_f1 k2_z
  have k0_c0 : c1.cell? ⟨w.heap.size, 0, none⟩ = some (.int .i64 s) := Blk.get k0 rfl
  have k0_f0 : c1.frozen? ⟨w.heap.size, 0, none⟩ = false := Blk.frozen k0 0
  have k0_c1 : c1.cell? ⟨w.heap.size, 1, none⟩ = some (.int .i64 a) := Blk.get k0 rfl
  have k0_f1 : c1.frozen? ⟨w.heap.size, 1, none⟩ = false := Blk.frozen k0 1
  have k0_c2 : c1.cell? ⟨w.heap.size, 2, none⟩ = some (.int .i64 o) := Blk.get k0 rfl
  have k0_f2 : c1.frozen? ⟨w.heap.size, 2, none⟩ = false := Blk.frozen k0 2
  have k0_z : w.heap.size < c1.heap.size := Blk.lt k0
  have k1_c0 : c1.cell? ⟨w.heap.size + 1, 0, none⟩ = some (.int .i64 s') := Blk.get k1 rfl
  have k1_f0 : c1.frozen? ⟨w.heap.size + 1, 0, none⟩ = false := Blk.frozen k1 0
  have k1_c1 : c1.cell? ⟨w.heap.size + 1, 1, none⟩ = some (.int .i64 a') := Blk.get k1 rfl
  have k1_f1 : c1.frozen? ⟨w.heap.size + 1, 1, none⟩ = false := Blk.frozen k1 1
  have k1_c2 : c1.cell? ⟨w.heap.size + 1, 2, none⟩ = some (.int .i64 o') := Blk.get k1 rfl
  have k1_f2 : c1.frozen? ⟨w.heap.size + 1, 2, none⟩ = false := Blk.frozen k1 2
  have k1_z : w.heap.size + 1 < c1.heap.size := Blk.lt k1
  have k2_c0 : c1.cell? ⟨w.heap.size + 2, 0, none⟩ = some (.int .i64 0) := Blk.get k2 rfl
  have k2_f0 : c1.frozen? ⟨w.heap.size + 2, 0, none⟩ = false := Blk.frozen k2 0
  have k2_c1 : c1.cell? ⟨w.heap.size + 2, 1, none⟩ = some (.int .i64 0) := Blk.get k2 rfl
  have k2_f1 : c1.frozen? ⟨w.heap.size + 2, 1, none⟩ = false := Blk.frozen k2 1
  have k2_z : w.heap.size + 2 < c1.heap.size := Blk.lt k2
  go_wp2_with fail
  go_call (specPitchValid_any _ _ _ _) as e c2 ⟨rfl, hb⟩
  replace k0 : Blk c2 (w.heap.size) 36 #[.int .i64 s, .int .i64 a, .int .i64 o] := Blk.pure (by repeat' (first | (with_reducible assumption) | (with_reducible exact Blk.new _ _ _) | (with_reducible exact Blk.new' (by simp)) | (with_reducible refine Blk.alloc ?_ _) | (with_reducible refine Blk.drew ?_) | (with_reducible refine Blk.drewN ?_ _) | (with_reducible refine Blk.ne ?_ ?_ _) | omega | (simp; omega))) hb
  replace k1 : Blk c2 (w.heap.size + 1) 36 #[.int .i64 s', .int .i64 a', .int .i64 o'] := Blk.pure (by repeat' (first | (with_reducible assumption) | (with_reducible exact Blk.new _ _ _) | (with_reducible exact Blk.new' (by simp)) | (with_reducible refine Blk.alloc ?_ _) | (with_reducible refine Blk.drew ?_) | (with_reducible refine Blk.drewN ?_ _) | (with_reducible refine Blk.ne ?_ ?_ _) | omega | (simp; omega))) hb
  replace k2 : Blk c2 (w.heap.size + 2) 25 #[.int .i64 0, .int .i64 0] := Blk.pure (by repeat' (first | (with_reducible assumption) | (with_reducible exact Blk.new _ _ _) | (with_reducible exact Blk.new' (by simp)) | (with_reducible refine Blk.alloc ?_ _) | (with_reducible refine Blk.drew ?_) | (with_reducible refine Blk.drewN ?_ _) | (with_reducible refine Blk.ne ?_ ?_ _) | omega | (simp; omega))) hb
  replace hB := below_pure (w := w) (by go_grown) hb
  clear hb
  clear k0_c0 k0_f0 k0_c1 k0_f1 k0_c2 k0_f2 k0_z k1_c0 k1_f0 k1_c1 k1_f1 k1_c2 k1_f2 k1_z k2_c0 k2_f0 k2_c1 k2_f1 k2_z
  have k0_c0 : c2.cell? ⟨w.heap.size, 0, none⟩ = some (.int .i64 s) := Blk.get k0 rfl
  have k0_f0 : c2.frozen? ⟨w.heap.size, 0, none⟩ = false := Blk.frozen k0 0
  have k0_c1 : c2.cell? ⟨w.heap.size, 1, none⟩ = some (.int .i64 a) := Blk.get k0 rfl
  have k0_f1 : c2.frozen? ⟨w.heap.size, 1, none⟩ = false := Blk.frozen k0 1
  have k0_c2 : c2.cell? ⟨w.heap.size, 2, none⟩ = some (.int .i64 o) := Blk.get k0 rfl
  have k0_f2 : c2.frozen? ⟨w.heap.size, 2, none⟩ = false := Blk.frozen k0 2
  have k0_z : w.heap.size < c2.heap.size := Blk.lt k0
  have k1_c0 : c2.cell? ⟨w.heap.size + 1, 0, none⟩ = some (.int .i64 s') := Blk.get k1 rfl
  have k1_f0 : c2.frozen? ⟨w.heap.size + 1, 0, none⟩ = false := Blk.frozen k1 0
  have k1_c1 : c2.cell? ⟨w.heap.size + 1, 1, none⟩ = some (.int .i64 a') := Blk.get k1 rfl
  have k1_f1 : c2.frozen? ⟨w.heap.size + 1, 1, none⟩ = false := Blk.frozen k1 1
  have k1_c2 : c2.cell? ⟨w.heap.size + 1, 2, none⟩ = some (.int .i64 o') := Blk.get k1 rfl
  have k1_f2 : c2.frozen? ⟨w.heap.size + 1, 2, none⟩ = false := Blk.frozen k1 2
  have k1_z : w.heap.size + 1 < c2.heap.size := Blk.lt k1
  have k2_c0 : c2.cell? ⟨w.heap.size + 2, 0, none⟩ = some (.int .i64 0) := Blk.get k2 rfl
  have k2_f0 : c2.frozen? ⟨w.heap.size + 2, 0, none⟩ = false := Blk.frozen k2 0
  have k2_c1 : c2.cell? ⟨w.heap.size + 2, 1, none⟩ = some (.int .i64 0) := Blk.get k2 rfl
  have k2_f1 : c2.frozen? ⟨w.heap.size + 2, 1, none⟩ = false := Blk.frozen k2 1
  have k2_z : w.heap.size + 2 < c2.heap.size := Blk.lt k2
  have q1 := Q1.out
  have q2 := Q2.out
  go_upto_region 3 with fail
  go_cut [6] (fun v6 wc => Blk wc (w.heap.size) 36 #[.int .i64 s, .int .i64 a, .int .i64 o] ∧ Blk wc (w.heap.size + 1) 36 #[.int .i64 s', .int .i64 a', .int .i64 o'] ∧ Blk wc (w.heap.size + 2) 25 #[.int .i64 0, .int .i64 0] ∧ Below w.heap.size w wc ∧ ∃ g : Nat, v6 = .pointer (some ⟨g, 0, none⟩) ∧ Blk wc g 25 #[.int .i64 x, .int .i64 y] ∧ w.heap.size + 2 < g)
  case first =>
    have HSd := Lib.hid (show Blk c2.drew (w.heap.size) 36 #[.int .i64 s, .int .i64 a, .int .i64 o] ∧ c2.drew.cell? ⟨w.heap.size, 0, none⟩ = some (.int .i64 s) ∧ c2.drew.cell? ⟨w.heap.size, 1, none⟩ = some (.int .i64 a) ∧ c2.drew.cell? ⟨w.heap.size, 2, none⟩ = some (.int .i64 o) ∧ Blk c2.drew (w.heap.size + 1) 36 #[.int .i64 s', .int .i64 a', .int .i64 o'] ∧ c2.drew.cell? ⟨w.heap.size + 1, 0, none⟩ = some (.int .i64 s') ∧ c2.drew.cell? ⟨w.heap.size + 1, 1, none⟩ = some (.int .i64 a') ∧ c2.drew.cell? ⟨w.heap.size + 1, 2, none⟩ = some (.int .i64 o') ∧ Blk c2.drew (w.heap.size + 2) 25 #[.int .i64 0, .int .i64 0] ∧ c2.drew.cell? ⟨w.heap.size + 2, 0, none⟩ = some (.int .i64 0) ∧ c2.drew.cell? ⟨w.heap.size + 2, 1, none⟩ = some (.int .i64 0) ∧ Below w.heap.size w c2.drew from ⟨k0, k0_c0, k0_c1, k0_c2, k1, k1_c0, k1_c1, k1_c2, k2, k2_c0, k2_c1, hB.drew⟩)
    have hz : w.heap.size + 2 < c2.heap.size := k2_z
    clear hB k0_c0 k0_f0 k0_c1 k0_f1 k0_c2 k0_f2 k0_z k1_c0 k1_f0 k1_c1 k1_f1 k1_c2 k1_f2 k1_z k2_c0 k2_f0 k2_c1 k2_f1 k2_z k0 k1 k2
    go_region_held3 (fun w' => Blk w' (w.heap.size) 36 #[.int .i64 s, .int .i64 a, .int .i64 o] ∧ w'.cell? ⟨w.heap.size, 0, none⟩ = some (.int .i64 s) ∧ w'.cell? ⟨w.heap.size, 1, none⟩ = some (.int .i64 a) ∧ w'.cell? ⟨w.heap.size, 2, none⟩ = some (.int .i64 o) ∧ Blk w' (w.heap.size + 1) 36 #[.int .i64 s', .int .i64 a', .int .i64 o'] ∧ w'.cell? ⟨w.heap.size + 1, 0, none⟩ = some (.int .i64 s') ∧ w'.cell? ⟨w.heap.size + 1, 1, none⟩ = some (.int .i64 a') ∧ w'.cell? ⟨w.heap.size + 1, 2, none⟩ = some (.int .i64 o') ∧ Blk w' (w.heap.size + 2) 25 #[.int .i64 0, .int .i64 0] ∧ w'.cell? ⟨w.heap.size + 2, 0, none⟩ = some (.int .i64 0) ∧ w'.cell? ⟨w.heap.size + 2, 1, none⟩ = some (.int .i64 0) ∧ Below w.heap.size w w')
      (first | exact HSd.out | (go_split_ands; go_split_ands; (repeat' apply And.intro) <;> first | (with_reducible assumption) | (with_reducible exact Blk.pure (by assumption) hbc) | (with_reducible exact Blk.get (Blk.pure (by assumption) hbc) rfl) | (with_reducible exact below_pure (by assumption) hbc) | (with_reducible exact Blk.alloc (by assumption) _) | (with_reducible exact Blk.get (Blk.alloc (by assumption) _) rfl) | (with_reducible exact Below.alloc (by assumption) (Below.size (by assumption)) _) | (with_reducible exact Blk.drew (Blk.alloc (Blk.undrew (by assumption)) _)) | (with_reducible exact Blk.get (Blk.drew (Blk.alloc (Blk.undrew (by assumption)) _)) rfl) | (with_reducible exact Below.drew (Below.alloc (below_undrew (by assumption)) (Below.size (below_undrew (by assumption))) _)) | (with_reducible exact Blk.swap (by assumption) (by omega)) | (with_reducible exact Blk.get (Blk.swap (by assumption) (by omega)) rfl) | (with_reducible exact below_swap (by assumption) (by omega)) | (with_reducible exact (Blk.ne (Blk.ne (by assumption) (by first | omega | (simp; omega)) _) (by first | omega | (simp; omega)) _)) | (with_reducible exact Blk.get (Blk.ne (Blk.ne (by assumption) (by first | omega | (simp; omega)) _) (by first | omega | (simp; omega)) _) rfl) | (with_reducible exact (Below.setCell (Below.setCell (by assumption) (by first | omega | (simp; omega)) _) (by first | omega | (simp; omega)) _))))
      (first | ((go_at_call 43; refine (specPitchPlace_any _ _ _ _).mono ?_; rintro e w2 ⟨rfl, hbc⟩); have hz : w.heap.size + 2 < w2.heap.size := (by (go_split_ands; refine Nat.lt_of_lt_of_le ?_ hbc.size; exact Blk.lt (by assumption))); (try have hN := Blk.pure hN hbc); (try have hN := Blk.new_pure hbc); (try have hN := Blk.new_pure_drew hbc); (try (have hN0 := Blk.get (i := 0) hN rfl; have hM0 := hN.frozen 0; have hN1 := Blk.get (i := 1) hN rfl; have hM1 := hN.frozen 1))) | ((go_at_call 44; refine (specPitchKey_any _ _ _ _).mono ?_; rintro e w2 ⟨rfl, hbc⟩); have hz : w.heap.size + 2 < w2.heap.size := (by (go_split_ands; refine Nat.lt_of_lt_of_le ?_ hbc.size; exact Blk.lt (by assumption))); (try have hN := Blk.pure hN hbc); (try have hN := Blk.new_pure hbc); (try have hN := Blk.new_pure_drew hbc); (try (have hN0 := Blk.get (i := 0) hN rfl; have hM0 := hN.frozen 0; have hN1 := Blk.get (i := 1) hN rfl; have hM1 := hN.frozen 1))))
    all_goals
      clear HSd
      go_wp2_with fail
      go_meet
      go_split_ands
      refine ⟨by assumption, by assumption, by assumption, by assumption, _, rfl, ?_, ?_⟩
      · first | exact Blk.put2 hN | exact Blk.new' rfl
      · omega
  case rest =>
    clear hB k0_c0 k0_f0 k0_c1 k0_f1 k0_c2 k0_f2 k0_z k1_c0 k1_f0 k1_c1 k1_f1 k1_c2 k1_f2 k1_z k2_c0 k2_f0 k2_c1 k2_f1 k2_z k0 k1 k2
    obtain ⟨k0, k1, k2, hB, g3, rfl, k3, hg3⟩ := hcut
    have k0_c0 : wc.cell? ⟨w.heap.size, 0, none⟩ = some (.int .i64 s) := Blk.get k0 rfl
    have k0_f0 : wc.frozen? ⟨w.heap.size, 0, none⟩ = false := Blk.frozen k0 0
    have k0_c1 : wc.cell? ⟨w.heap.size, 1, none⟩ = some (.int .i64 a) := Blk.get k0 rfl
    have k0_f1 : wc.frozen? ⟨w.heap.size, 1, none⟩ = false := Blk.frozen k0 1
    have k0_c2 : wc.cell? ⟨w.heap.size, 2, none⟩ = some (.int .i64 o) := Blk.get k0 rfl
    have k0_f2 : wc.frozen? ⟨w.heap.size, 2, none⟩ = false := Blk.frozen k0 2
    have k0_z : w.heap.size < wc.heap.size := Blk.lt k0
    have k1_c0 : wc.cell? ⟨w.heap.size + 1, 0, none⟩ = some (.int .i64 s') := Blk.get k1 rfl
    have k1_f0 : wc.frozen? ⟨w.heap.size + 1, 0, none⟩ = false := Blk.frozen k1 0
    have k1_c1 : wc.cell? ⟨w.heap.size + 1, 1, none⟩ = some (.int .i64 a') := Blk.get k1 rfl
    have k1_f1 : wc.frozen? ⟨w.heap.size + 1, 1, none⟩ = false := Blk.frozen k1 1
    have k1_c2 : wc.cell? ⟨w.heap.size + 1, 2, none⟩ = some (.int .i64 o') := Blk.get k1 rfl
    have k1_f2 : wc.frozen? ⟨w.heap.size + 1, 2, none⟩ = false := Blk.frozen k1 2
    have k1_z : w.heap.size + 1 < wc.heap.size := Blk.lt k1
    have k2_c0 : wc.cell? ⟨w.heap.size + 2, 0, none⟩ = some (.int .i64 0) := Blk.get k2 rfl
    have k2_f0 : wc.frozen? ⟨w.heap.size + 2, 0, none⟩ = false := Blk.frozen k2 0
    have k2_c1 : wc.cell? ⟨w.heap.size + 2, 1, none⟩ = some (.int .i64 0) := Blk.get k2 rfl
    have k2_f1 : wc.frozen? ⟨w.heap.size + 2, 1, none⟩ = false := Blk.frozen k2 1
    have k2_z : w.heap.size + 2 < wc.heap.size := Blk.lt k2
    have k3_c0 : wc.cell? ⟨g3, 0, none⟩ = some (.int .i64 x) := Blk.get k3 rfl
    have k3_f0 : wc.frozen? ⟨g3, 0, none⟩ = false := Blk.frozen k3 0
    have k3_c1 : wc.cell? ⟨g3, 1, none⟩ = some (.int .i64 y) := Blk.get k3 rfl
    have k3_f1 : wc.frozen? ⟨g3, 1, none⟩ = false := Blk.frozen k3 1
    have k3_z : g3 < wc.heap.size := Blk.lt k3
    clear q1 q2
    cases hi : intB x y
    · have HR := Lib.hid (show ofB s a o s' a' o' x y = false by simp [ofB, hp, hq, hi])
      go_wp2_with fail
      go_call (specIntervalValid_any _ _ _) as e c3 ⟨rfl, hb⟩
      replace k0 : Blk c3 (w.heap.size) 36 #[.int .i64 s, .int .i64 a, .int .i64 o] := Blk.pure (by repeat' (first | (with_reducible assumption) | (with_reducible exact Blk.new _ _ _) | (with_reducible exact Blk.new' (by simp)) | (with_reducible refine Blk.alloc ?_ _) | (with_reducible refine Blk.drew ?_) | (with_reducible refine Blk.drewN ?_ _) | (with_reducible refine Blk.ne ?_ ?_ _) | omega | (simp; omega))) hb
      replace k1 : Blk c3 (w.heap.size + 1) 36 #[.int .i64 s', .int .i64 a', .int .i64 o'] := Blk.pure (by repeat' (first | (with_reducible assumption) | (with_reducible exact Blk.new _ _ _) | (with_reducible exact Blk.new' (by simp)) | (with_reducible refine Blk.alloc ?_ _) | (with_reducible refine Blk.drew ?_) | (with_reducible refine Blk.drewN ?_ _) | (with_reducible refine Blk.ne ?_ ?_ _) | omega | (simp; omega))) hb
      replace k2 : Blk c3 (w.heap.size + 2) 25 #[.int .i64 0, .int .i64 0] := Blk.pure (by repeat' (first | (with_reducible assumption) | (with_reducible exact Blk.new _ _ _) | (with_reducible exact Blk.new' (by simp)) | (with_reducible refine Blk.alloc ?_ _) | (with_reducible refine Blk.drew ?_) | (with_reducible refine Blk.drewN ?_ _) | (with_reducible refine Blk.ne ?_ ?_ _) | omega | (simp; omega))) hb
      replace k3 : Blk c3 (g3) 25 #[.int .i64 x, .int .i64 y] := Blk.pure (by repeat' (first | (with_reducible assumption) | (with_reducible exact Blk.new _ _ _) | (with_reducible exact Blk.new' (by simp)) | (with_reducible refine Blk.alloc ?_ _) | (with_reducible refine Blk.drew ?_) | (with_reducible refine Blk.drewN ?_ _) | (with_reducible refine Blk.ne ?_ ?_ _) | omega | (simp; omega))) hb
      replace hB := below_pure (w := w) (by go_grown) hb
      clear hb
      clear k0_c0 k0_f0 k0_c1 k0_f1 k0_c2 k0_f2 k0_z k1_c0 k1_f0 k1_c1 k1_f1 k1_c2 k1_f2 k1_z k2_c0 k2_f0 k2_c1 k2_f1 k2_z k3_c0 k3_f0 k3_c1 k3_f1 k3_z
      have k0_c0 : c3.cell? ⟨w.heap.size, 0, none⟩ = some (.int .i64 s) := Blk.get k0 rfl
      have k0_f0 : c3.frozen? ⟨w.heap.size, 0, none⟩ = false := Blk.frozen k0 0
      have k0_c1 : c3.cell? ⟨w.heap.size, 1, none⟩ = some (.int .i64 a) := Blk.get k0 rfl
      have k0_f1 : c3.frozen? ⟨w.heap.size, 1, none⟩ = false := Blk.frozen k0 1
      have k0_c2 : c3.cell? ⟨w.heap.size, 2, none⟩ = some (.int .i64 o) := Blk.get k0 rfl
      have k0_f2 : c3.frozen? ⟨w.heap.size, 2, none⟩ = false := Blk.frozen k0 2
      have k0_z : w.heap.size < c3.heap.size := Blk.lt k0
      have k1_c0 : c3.cell? ⟨w.heap.size + 1, 0, none⟩ = some (.int .i64 s') := Blk.get k1 rfl
      have k1_f0 : c3.frozen? ⟨w.heap.size + 1, 0, none⟩ = false := Blk.frozen k1 0
      have k1_c1 : c3.cell? ⟨w.heap.size + 1, 1, none⟩ = some (.int .i64 a') := Blk.get k1 rfl
      have k1_f1 : c3.frozen? ⟨w.heap.size + 1, 1, none⟩ = false := Blk.frozen k1 1
      have k1_c2 : c3.cell? ⟨w.heap.size + 1, 2, none⟩ = some (.int .i64 o') := Blk.get k1 rfl
      have k1_f2 : c3.frozen? ⟨w.heap.size + 1, 2, none⟩ = false := Blk.frozen k1 2
      have k1_z : w.heap.size + 1 < c3.heap.size := Blk.lt k1
      have k2_c0 : c3.cell? ⟨w.heap.size + 2, 0, none⟩ = some (.int .i64 0) := Blk.get k2 rfl
      have k2_f0 : c3.frozen? ⟨w.heap.size + 2, 0, none⟩ = false := Blk.frozen k2 0
      have k2_c1 : c3.cell? ⟨w.heap.size + 2, 1, none⟩ = some (.int .i64 0) := Blk.get k2 rfl
      have k2_f1 : c3.frozen? ⟨w.heap.size + 2, 1, none⟩ = false := Blk.frozen k2 1
      have k2_z : w.heap.size + 2 < c3.heap.size := Blk.lt k2
      have k3_c0 : c3.cell? ⟨g3, 0, none⟩ = some (.int .i64 x) := Blk.get k3 rfl
      have k3_f0 : c3.frozen? ⟨g3, 0, none⟩ = false := Blk.frozen k3 0
      have k3_c1 : c3.cell? ⟨g3, 1, none⟩ = some (.int .i64 y) := Blk.get k3 rfl
      have k3_f1 : c3.frozen? ⟨g3, 1, none⟩ = false := Blk.frozen k3 1
      have k3_z : g3 < c3.heap.size := Blk.lt k3
      go_wp2
      refine bodyPost_ret (v := .tuple #[.agg #[.int .i64 0, .int .i64 0], .bool false]) (by simp [results, Try.results25, go_sem, *]) rfl ⟨by rw [HR.out]; rfl, by go_grown⟩
    have HR := Lib.hid (show ofB s a o s' a' o' x y = true by simp [ofB, hp, hq, hi])
    go_wp2_with fail
    go_call (specIntervalValid_any _ _ _) as e c3 ⟨rfl, hb⟩
    replace k0 : Blk c3 (w.heap.size) 36 #[.int .i64 s, .int .i64 a, .int .i64 o] := Blk.pure (by repeat' (first | (with_reducible assumption) | (with_reducible exact Blk.new _ _ _) | (with_reducible exact Blk.new' (by simp)) | (with_reducible refine Blk.alloc ?_ _) | (with_reducible refine Blk.drew ?_) | (with_reducible refine Blk.drewN ?_ _) | (with_reducible refine Blk.ne ?_ ?_ _) | omega | (simp; omega))) hb
    replace k1 : Blk c3 (w.heap.size + 1) 36 #[.int .i64 s', .int .i64 a', .int .i64 o'] := Blk.pure (by repeat' (first | (with_reducible assumption) | (with_reducible exact Blk.new _ _ _) | (with_reducible exact Blk.new' (by simp)) | (with_reducible refine Blk.alloc ?_ _) | (with_reducible refine Blk.drew ?_) | (with_reducible refine Blk.drewN ?_ _) | (with_reducible refine Blk.ne ?_ ?_ _) | omega | (simp; omega))) hb
    replace k2 : Blk c3 (w.heap.size + 2) 25 #[.int .i64 0, .int .i64 0] := Blk.pure (by repeat' (first | (with_reducible assumption) | (with_reducible exact Blk.new _ _ _) | (with_reducible exact Blk.new' (by simp)) | (with_reducible refine Blk.alloc ?_ _) | (with_reducible refine Blk.drew ?_) | (with_reducible refine Blk.drewN ?_ _) | (with_reducible refine Blk.ne ?_ ?_ _) | omega | (simp; omega))) hb
    replace k3 : Blk c3 (g3) 25 #[.int .i64 x, .int .i64 y] := Blk.pure (by repeat' (first | (with_reducible assumption) | (with_reducible exact Blk.new _ _ _) | (with_reducible exact Blk.new' (by simp)) | (with_reducible refine Blk.alloc ?_ _) | (with_reducible refine Blk.drew ?_) | (with_reducible refine Blk.drewN ?_ _) | (with_reducible refine Blk.ne ?_ ?_ _) | omega | (simp; omega))) hb
    replace hB := below_pure (w := w) (by go_grown) hb
    clear hb
    clear k0_c0 k0_f0 k0_c1 k0_f1 k0_c2 k0_f2 k0_z k1_c0 k1_f0 k1_c1 k1_f1 k1_c2 k1_f2 k1_z k2_c0 k2_f0 k2_c1 k2_f1 k2_z k3_c0 k3_f0 k3_c1 k3_f1 k3_z
    have k0_c0 : c3.cell? ⟨w.heap.size, 0, none⟩ = some (.int .i64 s) := Blk.get k0 rfl
    have k0_f0 : c3.frozen? ⟨w.heap.size, 0, none⟩ = false := Blk.frozen k0 0
    have k0_c1 : c3.cell? ⟨w.heap.size, 1, none⟩ = some (.int .i64 a) := Blk.get k0 rfl
    have k0_f1 : c3.frozen? ⟨w.heap.size, 1, none⟩ = false := Blk.frozen k0 1
    have k0_c2 : c3.cell? ⟨w.heap.size, 2, none⟩ = some (.int .i64 o) := Blk.get k0 rfl
    have k0_f2 : c3.frozen? ⟨w.heap.size, 2, none⟩ = false := Blk.frozen k0 2
    have k0_z : w.heap.size < c3.heap.size := Blk.lt k0
    have k1_c0 : c3.cell? ⟨w.heap.size + 1, 0, none⟩ = some (.int .i64 s') := Blk.get k1 rfl
    have k1_f0 : c3.frozen? ⟨w.heap.size + 1, 0, none⟩ = false := Blk.frozen k1 0
    have k1_c1 : c3.cell? ⟨w.heap.size + 1, 1, none⟩ = some (.int .i64 a') := Blk.get k1 rfl
    have k1_f1 : c3.frozen? ⟨w.heap.size + 1, 1, none⟩ = false := Blk.frozen k1 1
    have k1_c2 : c3.cell? ⟨w.heap.size + 1, 2, none⟩ = some (.int .i64 o') := Blk.get k1 rfl
    have k1_f2 : c3.frozen? ⟨w.heap.size + 1, 2, none⟩ = false := Blk.frozen k1 2
    have k1_z : w.heap.size + 1 < c3.heap.size := Blk.lt k1
    have k2_c0 : c3.cell? ⟨w.heap.size + 2, 0, none⟩ = some (.int .i64 0) := Blk.get k2 rfl
    have k2_f0 : c3.frozen? ⟨w.heap.size + 2, 0, none⟩ = false := Blk.frozen k2 0
    have k2_c1 : c3.cell? ⟨w.heap.size + 2, 1, none⟩ = some (.int .i64 0) := Blk.get k2 rfl
    have k2_f1 : c3.frozen? ⟨w.heap.size + 2, 1, none⟩ = false := Blk.frozen k2 1
    have k2_z : w.heap.size + 2 < c3.heap.size := Blk.lt k2
    have k3_c0 : c3.cell? ⟨g3, 0, none⟩ = some (.int .i64 x) := Blk.get k3 rfl
    have k3_f0 : c3.frozen? ⟨g3, 0, none⟩ = false := Blk.frozen k3 0
    have k3_c1 : c3.cell? ⟨g3, 1, none⟩ = some (.int .i64 y) := Blk.get k3 rfl
    have k3_f1 : c3.frozen? ⟨g3, 1, none⟩ = false := Blk.frozen k3 1
    have k3_z : g3 < c3.heap.size := Blk.lt k3
    go_wp2
    refine bodyPost_ret (v := .tuple #[.agg #[.int .i64 x, .int .i64 y], .bool true]) (by simp [results, Try.results25, go_sem, *]) rfl ⟨by rw [HR.out]; rfl, by go_grown⟩
end Go.Proofs.Ytelmcidbengcdaa

/- The walk of the law FnExactAddInterval: it returns true, and nothing that was there turns. No condition. -/
import Derived.Test.YtelmcidbengcdaaId
namespace Go.Proofs.Ytelmcidbengcdaa
open Go.RowKit

set_option maxHeartbeats 4000000 in
theorem fnExactAddInterval_walk (s a o x' y' : Int) (w : World) (_ : (Lit.int .i64 s).wf = true) (_ : (Lit.int .i64 a).wf = true) (_ : (Lit.int .i64 o).wf = true) (_ : (Lit.int .i64 x').wf = true) (_ : (Lit.int .i64 y').wf = true) :
    Calls Try.prog 8 #[.agg #[.int .i64 s, .int .i64 a, .int .i64 o], .agg #[.int .i64 x', .int .i64 y']] w (Gives (.bool true) w) := by
  obtain ⟨pl, hx⟩ : ∃ x, placeV s a o + x' = x := ⟨_, rfl⟩
  obtain ⟨k, hy⟩ : ∃ y, keyV s a o + y' = y := ⟨_, rfl⟩
  have HX := Lib.hid hx
  have HY := Lib.hid hy
  clear hx hy
  go_enter Try.func8, Try.ntmps8
  go_upto_region 1 with fail
  have k0 : Blk ((w.alloc (Obj.cells #[.int .i64 s, .int .i64 a, .int .i64 o] 34)).alloc (Obj.cells #[.int .i64 x', .int .i64 y'] 23)) (w.heap.size) 34 #[.int .i64 s, .int .i64 a, .int .i64 o] := (by repeat' (first | (with_reducible assumption) | (with_reducible exact Blk.new _ _ _) | (with_reducible exact Blk.new' (by simp)) | (with_reducible refine Blk.alloc ?_ _) | (with_reducible refine Blk.drew ?_) | (with_reducible refine Blk.drewN ?_ _) | (with_reducible refine Blk.ne ?_ ?_ _) | omega | (simp; omega)))
  have k1 : Blk ((w.alloc (Obj.cells #[.int .i64 s, .int .i64 a, .int .i64 o] 34)).alloc (Obj.cells #[.int .i64 x', .int .i64 y'] 23)) (w.heap.size + 1) 23 #[.int .i64 x', .int .i64 y'] := (by repeat' (first | (with_reducible assumption) | (with_reducible exact Blk.new _ _ _) | (with_reducible exact Blk.new' (by simp)) | (with_reducible refine Blk.alloc ?_ _) | (with_reducible refine Blk.drew ?_) | (with_reducible refine Blk.drewN ?_ _) | (with_reducible refine Blk.ne ?_ ?_ _) | omega | (simp; omega)))
  have hB : Below w.heap.size w ((w.alloc (Obj.cells #[.int .i64 s, .int .i64 a, .int .i64 o] 34)).alloc (Obj.cells #[.int .i64 x', .int .i64 y'] 23)) := by go_grown
  generalize ((w.alloc (Obj.cells #[.int .i64 s, .int .i64 a, .int .i64 o] 34)).alloc (Obj.cells #[.int .i64 x', .int .i64 y'] 23)) = c0 at *
  have k0_c0 : c0.cell? ⟨w.heap.size, 0, none⟩ = some (.int .i64 s) := Blk.get k0 rfl
  have k0_f0 : c0.frozen? ⟨w.heap.size, 0, none⟩ = false := Blk.frozen k0 0
  have k0_c1 : c0.cell? ⟨w.heap.size, 1, none⟩ = some (.int .i64 a) := Blk.get k0 rfl
  have k0_f1 : c0.frozen? ⟨w.heap.size, 1, none⟩ = false := Blk.frozen k0 1
  have k0_c2 : c0.cell? ⟨w.heap.size, 2, none⟩ = some (.int .i64 o) := Blk.get k0 rfl
  have k0_f2 : c0.frozen? ⟨w.heap.size, 2, none⟩ = false := Blk.frozen k0 2
  have k0_z : w.heap.size < c0.heap.size := Blk.lt k0
  have k1_c0 : c0.cell? ⟨w.heap.size + 1, 0, none⟩ = some (.int .i64 x') := Blk.get k1 rfl
  have k1_f0 : c0.frozen? ⟨w.heap.size + 1, 0, none⟩ = false := Blk.frozen k1 0
  have k1_c1 : c0.cell? ⟨w.heap.size + 1, 1, none⟩ = some (.int .i64 y') := Blk.get k1 rfl
  have k1_f1 : c0.frozen? ⟨w.heap.size + 1, 1, none⟩ = false := Blk.frozen k1 1
  have k1_z : w.heap.size + 1 < c0.heap.size := Blk.lt k1
  go_upto_region 1 with fail
  go_cut [5, 6] (fun v5 v6 wc => Blk wc (w.heap.size) 34 #[.int .i64 s, .int .i64 a, .int .i64 o] ∧ Blk wc (w.heap.size + 1) 23 #[.int .i64 x', .int .i64 y'] ∧ Below w.heap.size w wc ∧ v6 = .bool (addB s a o x' y') ∧ ∃ g : Nat, v5 = .pointer (some ⟨g, 0, none⟩) ∧ Blk wc g 36 #[.int .i64 (ofX (addB s a o x' y') (pl % 7)), .int .i64 (ofX (addB s a o x' y') (k - natu pl)), .int .i64 (ofX (addB s a o x' y') (pl / 7))] ∧ w.heap.size + 1 < g)
  case first =>
    have HSd := Lib.hid (show Blk c0.drew (w.heap.size) 34 #[.int .i64 s, .int .i64 a, .int .i64 o] ∧ c0.drew.cell? ⟨w.heap.size, 0, none⟩ = some (.int .i64 s) ∧ c0.drew.cell? ⟨w.heap.size, 1, none⟩ = some (.int .i64 a) ∧ c0.drew.cell? ⟨w.heap.size, 2, none⟩ = some (.int .i64 o) ∧ Blk c0.drew (w.heap.size + 1) 23 #[.int .i64 x', .int .i64 y'] ∧ c0.drew.cell? ⟨w.heap.size + 1, 0, none⟩ = some (.int .i64 x') ∧ c0.drew.cell? ⟨w.heap.size + 1, 1, none⟩ = some (.int .i64 y') ∧ Below w.heap.size w c0.drew from ⟨k0, k0_c0, k0_c1, k0_c2, k1, k1_c0, k1_c1, hB.drew⟩)
    have hz : w.heap.size + 1 < c0.heap.size := k1_z
    clear hB k0_c0 k0_f0 k0_c1 k0_f1 k0_c2 k0_f2 k0_z k1_c0 k1_f0 k1_c1 k1_f1 k1_z k0 k1
    go_region_held3 (fun w' => Blk w' (w.heap.size) 34 #[.int .i64 s, .int .i64 a, .int .i64 o] ∧ w'.cell? ⟨w.heap.size, 0, none⟩ = some (.int .i64 s) ∧ w'.cell? ⟨w.heap.size, 1, none⟩ = some (.int .i64 a) ∧ w'.cell? ⟨w.heap.size, 2, none⟩ = some (.int .i64 o) ∧ Blk w' (w.heap.size + 1) 23 #[.int .i64 x', .int .i64 y'] ∧ w'.cell? ⟨w.heap.size + 1, 0, none⟩ = some (.int .i64 x') ∧ w'.cell? ⟨w.heap.size + 1, 1, none⟩ = some (.int .i64 y') ∧ Below w.heap.size w w')
      (first | exact HSd.out | (go_split_ands; go_split_ands; (repeat' apply And.intro) <;> first | (with_reducible assumption) | (with_reducible exact Blk.pure (by assumption) hbc) | (with_reducible exact Blk.get (Blk.pure (by assumption) hbc) rfl) | (with_reducible exact below_pure (by assumption) hbc) | (with_reducible exact Blk.alloc (by assumption) _) | (with_reducible exact Blk.get (Blk.alloc (by assumption) _) rfl) | (with_reducible exact Below.alloc (by assumption) (Below.size (by assumption)) _) | (with_reducible exact Blk.drew (Blk.alloc (Blk.undrew (by assumption)) _)) | (with_reducible exact Blk.get (Blk.drew (Blk.alloc (Blk.undrew (by assumption)) _)) rfl) | (with_reducible exact Below.drew (Below.alloc (below_undrew (by assumption)) (Below.size (below_undrew (by assumption))) _)) | (with_reducible exact Blk.swap (by assumption) (by omega)) | (with_reducible exact Blk.get (Blk.swap (by assumption) (by omega)) rfl) | (with_reducible exact below_swap (by assumption) (by omega)) | (with_reducible exact (Blk.ne (Blk.ne (Blk.ne (by assumption) (by first | omega | (simp; omega)) _) (by first | omega | (simp; omega)) _) (by first | omega | (simp; omega)) _)) | (with_reducible exact Blk.get (Blk.ne (Blk.ne (Blk.ne (by assumption) (by first | omega | (simp; omega)) _) (by first | omega | (simp; omega)) _) (by first | omega | (simp; omega)) _) rfl) | (with_reducible exact (Below.setCell (Below.setCell (Below.setCell (by assumption) (by first | omega | (simp; omega)) _) (by first | omega | (simp; omega)) _) (by first | omega | (simp; omega)) _))))
      (first | ((go_at_call 26; refine (toPitch_any _ _ _ _).mono ?_; rintro e w2 ⟨rfl, hbc⟩); have hz : w.heap.size + 1 < w2.heap.size := (by (go_split_ands; refine Nat.lt_of_lt_of_le ?_ hbc.size; exact Blk.lt (by assumption))); (try have hN := Blk.pure hN hbc); (try have hN := Blk.pure (Blk.drew hN) hbc); (try have hN := Blk.new_pure hbc); (try have hN := Blk.new_pure_drew hbc); (try (have hN0 := Blk.get (i := 0) hN rfl; have hM0 := hN.frozen 0; have hN1 := Blk.get (i := 1) hN rfl; have hM1 := hN.frozen 1; have hN2 := Blk.get (i := 2) hN rfl; have hM2 := hN.frozen 2))) | ((go_at_call 16; refine (toInterval_any _ _ _).mono ?_; rintro e w2 ⟨rfl, hbc⟩); have hz : w.heap.size + 1 < w2.heap.size := (by (go_split_ands; refine Nat.lt_of_lt_of_le ?_ hbc.size; exact Blk.lt (by assumption))); (try have hN := Blk.pure hN hbc); (try have hN := Blk.pure (Blk.drew hN) hbc); (try have hN := Blk.new_pure hbc); (try have hN := Blk.new_pure_drew hbc); (try (have hN0 := Blk.get (i := 0) hN rfl; have hM0 := hN.frozen 0; have hN1 := Blk.get (i := 1) hN rfl; have hM1 := hN.frozen 1; have hN2 := Blk.get (i := 2) hN rfl; have hM2 := hN.frozen 2))) | ((go_at_call 28; refine (specAddInterval_any _ _ _ _ _ _ _ _ HX.out HY.out).mono ?_; rintro e w2 ⟨rfl, hbc⟩); have hz : w.heap.size + 1 < w2.heap.size := (by (go_split_ands; refine Nat.lt_of_lt_of_le ?_ hbc.size; exact Blk.lt (by assumption))); (try have hN := Blk.pure hN hbc); (try have hN := Blk.pure (Blk.drew hN) hbc); (try have hN := Blk.new_pure hbc); (try have hN := Blk.new_pure_drew hbc); (try (have hN0 := Blk.get (i := 0) hN rfl; have hM0 := hN.frozen 0; have hN1 := Blk.get (i := 1) hN rfl; have hM1 := hN.frozen 1; have hN2 := Blk.get (i := 2) hN rfl; have hM2 := hN.frozen 2))))
    all_goals
      clear HSd
      go_wp2_with fail
      go_meet
      go_split_ands
      refine ⟨by assumption, by assumption, by assumption, rfl, _, rfl, ?_, ?_⟩
      · first | exact Blk.put3 hN | exact Blk.new' rfl
      · omega
  case rest =>
    clear hB k0_c0 k0_f0 k0_c1 k0_f1 k0_c2 k0_f2 k0_z k1_c0 k1_f0 k1_c1 k1_f1 k1_z k0 k1
    obtain ⟨k0, k1, hB, rfl, g2, rfl, k2, hg2⟩ := hcut
    have k0_c0 : wc.cell? ⟨w.heap.size, 0, none⟩ = some (.int .i64 s) := Blk.get k0 rfl
    have k0_f0 : wc.frozen? ⟨w.heap.size, 0, none⟩ = false := Blk.frozen k0 0
    have k0_c1 : wc.cell? ⟨w.heap.size, 1, none⟩ = some (.int .i64 a) := Blk.get k0 rfl
    have k0_f1 : wc.frozen? ⟨w.heap.size, 1, none⟩ = false := Blk.frozen k0 1
    have k0_c2 : wc.cell? ⟨w.heap.size, 2, none⟩ = some (.int .i64 o) := Blk.get k0 rfl
    have k0_f2 : wc.frozen? ⟨w.heap.size, 2, none⟩ = false := Blk.frozen k0 2
    have k0_z : w.heap.size < wc.heap.size := Blk.lt k0
    have k1_c0 : wc.cell? ⟨w.heap.size + 1, 0, none⟩ = some (.int .i64 x') := Blk.get k1 rfl
    have k1_f0 : wc.frozen? ⟨w.heap.size + 1, 0, none⟩ = false := Blk.frozen k1 0
    have k1_c1 : wc.cell? ⟨w.heap.size + 1, 1, none⟩ = some (.int .i64 y') := Blk.get k1 rfl
    have k1_f1 : wc.frozen? ⟨w.heap.size + 1, 1, none⟩ = false := Blk.frozen k1 1
    have k1_z : w.heap.size + 1 < wc.heap.size := Blk.lt k1
    have k2_c0 : wc.cell? ⟨g2, 0, none⟩ = some (.int .i64 (ofX (addB s a o x' y') (pl % 7))) := Blk.get k2 rfl
    have k2_f0 : wc.frozen? ⟨g2, 0, none⟩ = false := Blk.frozen k2 0
    have k2_c1 : wc.cell? ⟨g2, 1, none⟩ = some (.int .i64 (ofX (addB s a o x' y') (k - natu pl))) := Blk.get k2 rfl
    have k2_f1 : wc.frozen? ⟨g2, 1, none⟩ = false := Blk.frozen k2 1
    have k2_c2 : wc.cell? ⟨g2, 2, none⟩ = some (.int .i64 (ofX (addB s a o x' y') (pl / 7))) := Blk.get k2 rfl
    have k2_f2 : wc.frozen? ⟨g2, 2, none⟩ = false := Blk.frozen k2 2
    have k2_z : g2 < wc.heap.size := Blk.lt k2
    go_upto_region 2 with fail
    go_cut [7, 8] (fun v7 v8 wc => Blk wc (w.heap.size) 34 #[.int .i64 s, .int .i64 a, .int .i64 o] ∧ Blk wc (w.heap.size + 1) 23 #[.int .i64 x', .int .i64 y'] ∧ Blk wc (g2) 36 #[.int .i64 (ofX (addB s a o x' y') (pl % 7)), .int .i64 (ofX (addB s a o x' y') (k - natu pl)), .int .i64 (ofX (addB s a o x' y') (pl / 7))] ∧ Below w.heap.size w wc ∧ v8 = .bool (addB s a o x' y') ∧ ∃ g : Nat, v7 = .pointer (some ⟨g, 0, none⟩) ∧ Blk wc g 36 #[.int .i64 (ofX (addB s a o x' y') (pl % 7)), .int .i64 (ofX (addB s a o x' y') (k - natu pl)), .int .i64 (ofX (addB s a o x' y') (pl / 7))] ∧ g2 < g)
    case first =>
      have HSd := Lib.hid (show Blk wc.drew (w.heap.size) 34 #[.int .i64 s, .int .i64 a, .int .i64 o] ∧ wc.drew.cell? ⟨w.heap.size, 0, none⟩ = some (.int .i64 s) ∧ wc.drew.cell? ⟨w.heap.size, 1, none⟩ = some (.int .i64 a) ∧ wc.drew.cell? ⟨w.heap.size, 2, none⟩ = some (.int .i64 o) ∧ Blk wc.drew (w.heap.size + 1) 23 #[.int .i64 x', .int .i64 y'] ∧ wc.drew.cell? ⟨w.heap.size + 1, 0, none⟩ = some (.int .i64 x') ∧ wc.drew.cell? ⟨w.heap.size + 1, 1, none⟩ = some (.int .i64 y') ∧ Blk wc.drew (g2) 36 #[.int .i64 (ofX (addB s a o x' y') (pl % 7)), .int .i64 (ofX (addB s a o x' y') (k - natu pl)), .int .i64 (ofX (addB s a o x' y') (pl / 7))] ∧ wc.drew.cell? ⟨g2, 0, none⟩ = some (.int .i64 (ofX (addB s a o x' y') (pl % 7))) ∧ wc.drew.cell? ⟨g2, 1, none⟩ = some (.int .i64 (ofX (addB s a o x' y') (k - natu pl))) ∧ wc.drew.cell? ⟨g2, 2, none⟩ = some (.int .i64 (ofX (addB s a o x' y') (pl / 7))) ∧ Below w.heap.size w wc.drew from ⟨k0, k0_c0, k0_c1, k0_c2, k1, k1_c0, k1_c1, k2, k2_c0, k2_c1, k2_c2, hB.drew⟩)
      have hz : g2 < wc.heap.size := k2_z
      clear hB k0_c0 k0_f0 k0_c1 k0_f1 k0_c2 k0_f2 k0_z k1_c0 k1_f0 k1_c1 k1_f1 k1_z k2_c0 k2_f0 k2_c1 k2_f1 k2_c2 k2_f2 k2_z k0 k1 k2
      go_region_held3 (fun w' => Blk w' (w.heap.size) 34 #[.int .i64 s, .int .i64 a, .int .i64 o] ∧ w'.cell? ⟨w.heap.size, 0, none⟩ = some (.int .i64 s) ∧ w'.cell? ⟨w.heap.size, 1, none⟩ = some (.int .i64 a) ∧ w'.cell? ⟨w.heap.size, 2, none⟩ = some (.int .i64 o) ∧ Blk w' (w.heap.size + 1) 23 #[.int .i64 x', .int .i64 y'] ∧ w'.cell? ⟨w.heap.size + 1, 0, none⟩ = some (.int .i64 x') ∧ w'.cell? ⟨w.heap.size + 1, 1, none⟩ = some (.int .i64 y') ∧ Blk w' (g2) 36 #[.int .i64 (ofX (addB s a o x' y') (pl % 7)), .int .i64 (ofX (addB s a o x' y') (k - natu pl)), .int .i64 (ofX (addB s a o x' y') (pl / 7))] ∧ w'.cell? ⟨g2, 0, none⟩ = some (.int .i64 (ofX (addB s a o x' y') (pl % 7))) ∧ w'.cell? ⟨g2, 1, none⟩ = some (.int .i64 (ofX (addB s a o x' y') (k - natu pl))) ∧ w'.cell? ⟨g2, 2, none⟩ = some (.int .i64 (ofX (addB s a o x' y') (pl / 7))) ∧ Below w.heap.size w w')
        (first | exact HSd.out | (go_split_ands; go_split_ands; (repeat' apply And.intro) <;> first | (with_reducible assumption) | (with_reducible exact Blk.pure (by assumption) hbc) | (with_reducible exact Blk.get (Blk.pure (by assumption) hbc) rfl) | (with_reducible exact below_pure (by assumption) hbc) | (with_reducible exact Blk.alloc (by assumption) _) | (with_reducible exact Blk.get (Blk.alloc (by assumption) _) rfl) | (with_reducible exact Below.alloc (by assumption) (Below.size (by assumption)) _) | (with_reducible exact Blk.drew (Blk.alloc (Blk.undrew (by assumption)) _)) | (with_reducible exact Blk.get (Blk.drew (Blk.alloc (Blk.undrew (by assumption)) _)) rfl) | (with_reducible exact Below.drew (Below.alloc (below_undrew (by assumption)) (Below.size (below_undrew (by assumption))) _)) | (with_reducible exact Blk.swap (by assumption) (by omega)) | (with_reducible exact Blk.get (Blk.swap (by assumption) (by omega)) rfl) | (with_reducible exact below_swap (by assumption) (by omega)) | (with_reducible exact (Blk.ne (Blk.ne (Blk.ne (by assumption) (by first | omega | (simp; omega)) _) (by first | omega | (simp; omega)) _) (by first | omega | (simp; omega)) _)) | (with_reducible exact Blk.get (Blk.ne (Blk.ne (Blk.ne (by assumption) (by first | omega | (simp; omega)) _) (by first | omega | (simp; omega)) _) (by first | omega | (simp; omega)) _) rfl) | (with_reducible exact (Below.setCell (Below.setCell (Below.setCell (by assumption) (by first | omega | (simp; omega)) _) (by first | omega | (simp; omega)) _) (by first | omega | (simp; omega)) _))))
        (first | ((go_at_call 26; refine (toPitch_any _ _ _ _).mono ?_; rintro e w2 ⟨rfl, hbc⟩); have hz : g2 < w2.heap.size := (by (go_split_ands; refine Nat.lt_of_lt_of_le ?_ hbc.size; exact Blk.lt (by assumption))); (try have hN := Blk.pure hN hbc); (try have hN := Blk.pure (Blk.drew hN) hbc); (try have hN := Blk.new_pure hbc); (try have hN := Blk.new_pure_drew hbc); (try (have hN0 := Blk.get (i := 0) hN rfl; have hM0 := hN.frozen 0; have hN1 := Blk.get (i := 1) hN rfl; have hM1 := hN.frozen 1; have hN2 := Blk.get (i := 2) hN rfl; have hM2 := hN.frozen 2))) | ((go_at_call 16; refine (toInterval_any _ _ _).mono ?_; rintro e w2 ⟨rfl, hbc⟩); have hz : g2 < w2.heap.size := (by (go_split_ands; refine Nat.lt_of_lt_of_le ?_ hbc.size; exact Blk.lt (by assumption))); (try have hN := Blk.pure hN hbc); (try have hN := Blk.pure (Blk.drew hN) hbc); (try have hN := Blk.new_pure hbc); (try have hN := Blk.new_pure_drew hbc); (try (have hN0 := Blk.get (i := 0) hN rfl; have hM0 := hN.frozen 0; have hN1 := Blk.get (i := 1) hN rfl; have hM1 := hN.frozen 1; have hN2 := Blk.get (i := 2) hN rfl; have hM2 := hN.frozen 2))) | ((go_at_call 29; refine (addInterval_any _ _ _ _ _ _ _ _ HX.out HY.out).mono ?_; rintro e w2 ⟨rfl, hbc⟩); have hz : g2 < w2.heap.size := (by (go_split_ands; refine Nat.lt_of_lt_of_le ?_ hbc.size; exact Blk.lt (by assumption))); (try have hN := Blk.pure hN hbc); (try have hN := Blk.pure (Blk.drew hN) hbc); (try have hN := Blk.new_pure hbc); (try have hN := Blk.new_pure_drew hbc); (try (have hN0 := Blk.get (i := 0) hN rfl; have hM0 := hN.frozen 0; have hN1 := Blk.get (i := 1) hN rfl; have hM1 := hN.frozen 1; have hN2 := Blk.get (i := 2) hN rfl; have hM2 := hN.frozen 2))))
      all_goals
        clear HSd
        go_wp2_with fail
        go_meet
        go_split_ands
        refine ⟨by assumption, by assumption, by assumption, by assumption, rfl, _, rfl, ?_, ?_⟩
        · first | exact Blk.put3 hN | exact Blk.new' rfl
        · omega
    case rest =>
      clear hB k0_c0 k0_f0 k0_c1 k0_f1 k0_c2 k0_f2 k0_z k1_c0 k1_f0 k1_c1 k1_f1 k1_z k2_c0 k2_f0 k2_c1 k2_f1 k2_c2 k2_f2 k2_z k0 k1 k2
      obtain ⟨k0, k1, k2, hB, rfl, g3, rfl, k3, hg3⟩ := hcut
      have k0_c0 : wc.cell? ⟨w.heap.size, 0, none⟩ = some (.int .i64 s) := Blk.get k0 rfl
      have k0_f0 : wc.frozen? ⟨w.heap.size, 0, none⟩ = false := Blk.frozen k0 0
      have k0_c1 : wc.cell? ⟨w.heap.size, 1, none⟩ = some (.int .i64 a) := Blk.get k0 rfl
      have k0_f1 : wc.frozen? ⟨w.heap.size, 1, none⟩ = false := Blk.frozen k0 1
      have k0_c2 : wc.cell? ⟨w.heap.size, 2, none⟩ = some (.int .i64 o) := Blk.get k0 rfl
      have k0_f2 : wc.frozen? ⟨w.heap.size, 2, none⟩ = false := Blk.frozen k0 2
      have k0_z : w.heap.size < wc.heap.size := Blk.lt k0
      have k1_c0 : wc.cell? ⟨w.heap.size + 1, 0, none⟩ = some (.int .i64 x') := Blk.get k1 rfl
      have k1_f0 : wc.frozen? ⟨w.heap.size + 1, 0, none⟩ = false := Blk.frozen k1 0
      have k1_c1 : wc.cell? ⟨w.heap.size + 1, 1, none⟩ = some (.int .i64 y') := Blk.get k1 rfl
      have k1_f1 : wc.frozen? ⟨w.heap.size + 1, 1, none⟩ = false := Blk.frozen k1 1
      have k1_z : w.heap.size + 1 < wc.heap.size := Blk.lt k1
      have k2_c0 : wc.cell? ⟨g2, 0, none⟩ = some (.int .i64 (ofX (addB s a o x' y') (pl % 7))) := Blk.get k2 rfl
      have k2_f0 : wc.frozen? ⟨g2, 0, none⟩ = false := Blk.frozen k2 0
      have k2_c1 : wc.cell? ⟨g2, 1, none⟩ = some (.int .i64 (ofX (addB s a o x' y') (k - natu pl))) := Blk.get k2 rfl
      have k2_f1 : wc.frozen? ⟨g2, 1, none⟩ = false := Blk.frozen k2 1
      have k2_c2 : wc.cell? ⟨g2, 2, none⟩ = some (.int .i64 (ofX (addB s a o x' y') (pl / 7))) := Blk.get k2 rfl
      have k2_f2 : wc.frozen? ⟨g2, 2, none⟩ = false := Blk.frozen k2 2
      have k2_z : g2 < wc.heap.size := Blk.lt k2
      have k3_c0 : wc.cell? ⟨g3, 0, none⟩ = some (.int .i64 (ofX (addB s a o x' y') (pl % 7))) := Blk.get k3 rfl
      have k3_f0 : wc.frozen? ⟨g3, 0, none⟩ = false := Blk.frozen k3 0
      have k3_c1 : wc.cell? ⟨g3, 1, none⟩ = some (.int .i64 (ofX (addB s a o x' y') (k - natu pl))) := Blk.get k3 rfl
      have k3_f1 : wc.frozen? ⟨g3, 1, none⟩ = false := Blk.frozen k3 1
      have k3_c2 : wc.cell? ⟨g3, 2, none⟩ = some (.int .i64 (ofX (addB s a o x' y') (pl / 7))) := Blk.get k3 rfl
      have k3_f2 : wc.frozen? ⟨g3, 2, none⟩ = false := Blk.frozen k3 2
      have k3_z : g3 < wc.heap.size := Blk.lt k3
      go_wp2_with fail
      go_call (eqPitch_same _ _ _ _) as e c1 ⟨rfl, hb⟩
      replace k0 : Blk c1 (w.heap.size) 34 #[.int .i64 s, .int .i64 a, .int .i64 o] := Blk.pure (by repeat' (first | (with_reducible assumption) | (with_reducible exact Blk.new _ _ _) | (with_reducible exact Blk.new' (by simp)) | (with_reducible refine Blk.alloc ?_ _) | (with_reducible refine Blk.drew ?_) | (with_reducible refine Blk.drewN ?_ _) | (with_reducible refine Blk.ne ?_ ?_ _) | omega | (simp; omega))) hb
      replace k1 : Blk c1 (w.heap.size + 1) 23 #[.int .i64 x', .int .i64 y'] := Blk.pure (by repeat' (first | (with_reducible assumption) | (with_reducible exact Blk.new _ _ _) | (with_reducible exact Blk.new' (by simp)) | (with_reducible refine Blk.alloc ?_ _) | (with_reducible refine Blk.drew ?_) | (with_reducible refine Blk.drewN ?_ _) | (with_reducible refine Blk.ne ?_ ?_ _) | omega | (simp; omega))) hb
      replace k2 : Blk c1 (g2) 36 #[.int .i64 (ofX (addB s a o x' y') (pl % 7)), .int .i64 (ofX (addB s a o x' y') (k - natu pl)), .int .i64 (ofX (addB s a o x' y') (pl / 7))] := Blk.pure (by repeat' (first | (with_reducible assumption) | (with_reducible exact Blk.new _ _ _) | (with_reducible exact Blk.new' (by simp)) | (with_reducible refine Blk.alloc ?_ _) | (with_reducible refine Blk.drew ?_) | (with_reducible refine Blk.drewN ?_ _) | (with_reducible refine Blk.ne ?_ ?_ _) | omega | (simp; omega))) hb
      replace k3 : Blk c1 (g3) 36 #[.int .i64 (ofX (addB s a o x' y') (pl % 7)), .int .i64 (ofX (addB s a o x' y') (k - natu pl)), .int .i64 (ofX (addB s a o x' y') (pl / 7))] := Blk.pure (by repeat' (first | (with_reducible assumption) | (with_reducible exact Blk.new _ _ _) | (with_reducible exact Blk.new' (by simp)) | (with_reducible refine Blk.alloc ?_ _) | (with_reducible refine Blk.drew ?_) | (with_reducible refine Blk.drewN ?_ _) | (with_reducible refine Blk.ne ?_ ?_ _) | omega | (simp; omega))) hb
      replace hB := below_pure (w := w) (by go_grown) hb
      clear hb
      clear k0_c0 k0_f0 k0_c1 k0_f1 k0_c2 k0_f2 k0_z k1_c0 k1_f0 k1_c1 k1_f1 k1_z k2_c0 k2_f0 k2_c1 k2_f1 k2_c2 k2_f2 k2_z k3_c0 k3_f0 k3_c1 k3_f1 k3_c2 k3_f2 k3_z
      have k0_c0 : c1.cell? ⟨w.heap.size, 0, none⟩ = some (.int .i64 s) := Blk.get k0 rfl
      have k0_f0 : c1.frozen? ⟨w.heap.size, 0, none⟩ = false := Blk.frozen k0 0
      have k0_c1 : c1.cell? ⟨w.heap.size, 1, none⟩ = some (.int .i64 a) := Blk.get k0 rfl
      have k0_f1 : c1.frozen? ⟨w.heap.size, 1, none⟩ = false := Blk.frozen k0 1
      have k0_c2 : c1.cell? ⟨w.heap.size, 2, none⟩ = some (.int .i64 o) := Blk.get k0 rfl
      have k0_f2 : c1.frozen? ⟨w.heap.size, 2, none⟩ = false := Blk.frozen k0 2
      have k0_z : w.heap.size < c1.heap.size := Blk.lt k0
      have k1_c0 : c1.cell? ⟨w.heap.size + 1, 0, none⟩ = some (.int .i64 x') := Blk.get k1 rfl
      have k1_f0 : c1.frozen? ⟨w.heap.size + 1, 0, none⟩ = false := Blk.frozen k1 0
      have k1_c1 : c1.cell? ⟨w.heap.size + 1, 1, none⟩ = some (.int .i64 y') := Blk.get k1 rfl
      have k1_f1 : c1.frozen? ⟨w.heap.size + 1, 1, none⟩ = false := Blk.frozen k1 1
      have k1_z : w.heap.size + 1 < c1.heap.size := Blk.lt k1
      have k2_c0 : c1.cell? ⟨g2, 0, none⟩ = some (.int .i64 (ofX (addB s a o x' y') (pl % 7))) := Blk.get k2 rfl
      have k2_f0 : c1.frozen? ⟨g2, 0, none⟩ = false := Blk.frozen k2 0
      have k2_c1 : c1.cell? ⟨g2, 1, none⟩ = some (.int .i64 (ofX (addB s a o x' y') (k - natu pl))) := Blk.get k2 rfl
      have k2_f1 : c1.frozen? ⟨g2, 1, none⟩ = false := Blk.frozen k2 1
      have k2_c2 : c1.cell? ⟨g2, 2, none⟩ = some (.int .i64 (ofX (addB s a o x' y') (pl / 7))) := Blk.get k2 rfl
      have k2_f2 : c1.frozen? ⟨g2, 2, none⟩ = false := Blk.frozen k2 2
      have k2_z : g2 < c1.heap.size := Blk.lt k2
      have k3_c0 : c1.cell? ⟨g3, 0, none⟩ = some (.int .i64 (ofX (addB s a o x' y') (pl % 7))) := Blk.get k3 rfl
      have k3_f0 : c1.frozen? ⟨g3, 0, none⟩ = false := Blk.frozen k3 0
      have k3_c1 : c1.cell? ⟨g3, 1, none⟩ = some (.int .i64 (ofX (addB s a o x' y') (k - natu pl))) := Blk.get k3 rfl
      have k3_f1 : c1.frozen? ⟨g3, 1, none⟩ = false := Blk.frozen k3 1
      have k3_c2 : c1.cell? ⟨g3, 2, none⟩ = some (.int .i64 (ofX (addB s a o x' y') (pl / 7))) := Blk.get k3 rfl
      have k3_f2 : c1.frozen? ⟨g3, 2, none⟩ = false := Blk.frozen k3 2
      have k3_z : g3 < c1.heap.size := Blk.lt k3
      go_wp2
      go_ret
      exact ⟨rfl, by go_grown⟩
end Go.Proofs.Ytelmcidbengcdaa

/- The walk of the law FnIntervalBack: it returns true, and nothing that was there turns. No condition. -/
import Derived.Test.YtelmcidbengcdaaDi
import Derived.Test.YtelmcidbengcdaaAl
import Derived.Test.YtelmcidbengcdaaIm
namespace Go.Proofs.Ytelmcidbengcdaa
open Go.RowKit

set_option maxHeartbeats 2000000 in
set_option maxRecDepth 100000 in
theorem fnIntervalBack_walk (a : Option Addr) (len cap : Nat) (w : World) (hC : Code' w a len cap) :
    Calls Try.prog 11 #[.slice a len cap] w (Gives (.bool true) w) := by
  by_cases hlen : 1048576 < len
  · have hcap : len ≤ 9223372036854775807 := by have h1 := hC.2.1; have h2 := hC.2.2; unfold maxLen at h2; omega
    go_enter Try.func11, Try.ntmps11
    go_wp2
    go_ret
    exact ⟨rfl, by go_grown⟩
  have hlen' : len ≤ 1048576 := by omega
  have HC := Lib.hid hC
  clear hC
  go_enter Try.func11, Try.ntmps11
  go_wp2_with fail
  refine (drawIntervalBack_any _ _ _ _ HC.out hlen').mono ?_
  rintro e c1 ⟨s, h, rfl, ⟨s0, s1, h0, h1⟩, hb⟩
  have hB : Below w.heap.size w c1 := by have h := below_pure (w := w) (by go_grown) hb; exact h
  have hsz := hB.size
  clear hb HC
  cases hi : intB s h
  · have e1 := backS_f hi
    have e2 := backH_f hi
    have HS := fun W => specIntervalBack_any s h W
    rw [e1, e2] at HS
    have HSp := Lib.hid HS
    clear HS
    go_wp2_with fail
    go_call (intervalBack_any _ _ _) as e c2 ⟨rfl, hb⟩
    have k0 : Blk c2 (c1.heap.size) 25 #[.int .i64 s, .int .i64 h] := Blk.pure (by repeat' (first | (with_reducible assumption) | (with_reducible exact Blk.new _ _ _) | (with_reducible exact Blk.new' (by simp)) | (with_reducible refine Blk.alloc ?_ _) | (with_reducible refine Blk.drew ?_) | (with_reducible refine Blk.drewN ?_ _) | (with_reducible refine Blk.ne ?_ ?_ _) | omega | (simp; omega))) hb
    replace hB := below_pure (w := w) (by go_grown) hb
    clear hb; replace hsz := hB.size
    have k0_c0 : c2.cell? ⟨c1.heap.size, 0, none⟩ = some (.int .i64 s) := Blk.get k0 rfl
    have k0_f0 : c2.frozen? ⟨c1.heap.size, 0, none⟩ = false := Blk.frozen k0 0
    have k0_c1 : c2.cell? ⟨c1.heap.size, 1, none⟩ = some (.int .i64 h) := Blk.get k0 rfl
    have k0_f1 : c2.frozen? ⟨c1.heap.size, 1, none⟩ = false := Blk.frozen k0 1
    have k0_z : c1.heap.size < c2.heap.size := Blk.lt k0
    go_upto_region 5 with fail
    have ordk0 := k0_z
    replace k0 : Blk (c2.alloc (Obj.cells #[.int .i64 0, .int .i64 0] 25)) (c1.heap.size) 25 #[.int .i64 s, .int .i64 h] := Blk.alloc k0 _
    have k1 : Blk (c2.alloc (Obj.cells #[.int .i64 0, .int .i64 0] 25)) (c2.heap.size) 25 #[.int .i64 0, .int .i64 0] := Blk.new _ _ _
    replace hB : Below w.heap.size w (c2.alloc (Obj.cells #[.int .i64 0, .int .i64 0] 25)) := by go_grown
    generalize (c2.alloc (Obj.cells #[.int .i64 0, .int .i64 0] 25)) = cx3 at *
    clear k0_c0 k0_f0 k0_c1 k0_f1 k0_z
    have k0_c0 : cx3.cell? ⟨c1.heap.size, 0, none⟩ = some (.int .i64 s) := Blk.get k0 rfl
    have k0_f0 : cx3.frozen? ⟨c1.heap.size, 0, none⟩ = false := Blk.frozen k0 0
    have k0_c1 : cx3.cell? ⟨c1.heap.size, 1, none⟩ = some (.int .i64 h) := Blk.get k0 rfl
    have k0_f1 : cx3.frozen? ⟨c1.heap.size, 1, none⟩ = false := Blk.frozen k0 1
    have k0_z : c1.heap.size < cx3.heap.size := Blk.lt k0
    have k1_c0 : cx3.cell? ⟨c2.heap.size, 0, none⟩ = some (.int .i64 0) := Blk.get k1 rfl
    have k1_f0 : cx3.frozen? ⟨c2.heap.size, 0, none⟩ = false := Blk.frozen k1 0
    have k1_c1 : cx3.cell? ⟨c2.heap.size, 1, none⟩ = some (.int .i64 0) := Blk.get k1 rfl
    have k1_f1 : cx3.frozen? ⟨c2.heap.size, 1, none⟩ = false := Blk.frozen k1 1
    have k1_z : c2.heap.size < cx3.heap.size := Blk.lt k1
    go_upto_region 5 with fail
    go_cut [15] (fun v15 wc => Blk wc (c1.heap.size) 25 #[.int .i64 s, .int .i64 h] ∧ Blk wc (c2.heap.size) 25 #[.int .i64 0, .int .i64 0] ∧ Below w.heap.size w wc ∧ v15 = .bool false)
    case first =>
      have HSd := Lib.hid (show Blk cx3.drew (c1.heap.size) 25 #[.int .i64 s, .int .i64 h] ∧ cx3.drew.cell? ⟨c1.heap.size, 0, none⟩ = some (.int .i64 s) ∧ cx3.drew.cell? ⟨c1.heap.size, 1, none⟩ = some (.int .i64 h) ∧ Blk cx3.drew (c2.heap.size) 25 #[.int .i64 0, .int .i64 0] ∧ cx3.drew.cell? ⟨c2.heap.size, 0, none⟩ = some (.int .i64 0) ∧ cx3.drew.cell? ⟨c2.heap.size, 1, none⟩ = some (.int .i64 0) ∧ Below w.heap.size w cx3.drew from ⟨k0, k0_c0, k0_c1, k1, k1_c0, k1_c1, hB.drew⟩)
      have hz : c2.heap.size < cx3.heap.size := k1_z
      clear hB k0_c0 k0_f0 k0_c1 k0_f1 k0_z k1_c0 k1_f0 k1_c1 k1_f1 k1_z k0 k1
      go_region_held3 (fun w' => Blk w' (c1.heap.size) 25 #[.int .i64 s, .int .i64 h] ∧ w'.cell? ⟨c1.heap.size, 0, none⟩ = some (.int .i64 s) ∧ w'.cell? ⟨c1.heap.size, 1, none⟩ = some (.int .i64 h) ∧ Blk w' (c2.heap.size) 25 #[.int .i64 0, .int .i64 0] ∧ w'.cell? ⟨c2.heap.size, 0, none⟩ = some (.int .i64 0) ∧ w'.cell? ⟨c2.heap.size, 1, none⟩ = some (.int .i64 0) ∧ Below w.heap.size w w')
        (first | exact HSd.out | (go_split_ands; go_split_ands; (repeat' apply And.intro) <;> first | (with_reducible assumption) | (with_reducible exact Blk.pure (by assumption) hbc) | (with_reducible exact Blk.get (Blk.pure (by assumption) hbc) rfl) | (with_reducible exact below_pure (by assumption) hbc) | (with_reducible exact Blk.alloc (by assumption) _) | (with_reducible exact Blk.get (Blk.alloc (by assumption) _) rfl) | (with_reducible exact Below.alloc (by assumption) (Below.size (by assumption)) _) | (with_reducible exact Blk.drew (Blk.alloc (Blk.undrew (by assumption)) _)) | (with_reducible exact Blk.get (Blk.drew (Blk.alloc (Blk.undrew (by assumption)) _)) rfl) | (with_reducible exact Below.drew (Below.alloc (below_undrew (by assumption)) (Below.size (below_undrew (by assumption))) _)) | (with_reducible exact Blk.swap (by assumption) (by omega)) | (with_reducible exact Blk.get (Blk.swap (by assumption) (by omega)) rfl) | (with_reducible exact below_swap (by assumption) (by omega))))
        (first | ((go_at_call 20; refine (HSp.out _).mono ?_; rintro e w2 ⟨rfl, hbc⟩); have hz : c2.heap.size < w2.heap.size := (by (go_split_ands; refine Nat.lt_of_lt_of_le ?_ hbc.size; exact Blk.lt (by assumption)))))
      all_goals
        clear HSd
        go_wp2_with fail
        go_meet
        go_split_ands
        refine ⟨by assumption, by assumption, by assumption, rfl⟩
    case rest =>
      clear hB k0_c0 k0_f0 k0_c1 k0_f1 k0_z k1_c0 k1_f0 k1_c1 k1_f1 k1_z k0 k1
      obtain ⟨k0, k1, hB, rfl⟩ := hcut
      have k0_c0 : wc.cell? ⟨c1.heap.size, 0, none⟩ = some (.int .i64 s) := Blk.get k0 rfl
      have k0_f0 : wc.frozen? ⟨c1.heap.size, 0, none⟩ = false := Blk.frozen k0 0
      have k0_c1 : wc.cell? ⟨c1.heap.size, 1, none⟩ = some (.int .i64 h) := Blk.get k0 rfl
      have k0_f1 : wc.frozen? ⟨c1.heap.size, 1, none⟩ = false := Blk.frozen k0 1
      have k0_z : c1.heap.size < wc.heap.size := Blk.lt k0
      have k1_c0 : wc.cell? ⟨c2.heap.size, 0, none⟩ = some (.int .i64 0) := Blk.get k1 rfl
      have k1_f0 : wc.frozen? ⟨c2.heap.size, 0, none⟩ = false := Blk.frozen k1 0
      have k1_c1 : wc.cell? ⟨c2.heap.size, 1, none⟩ = some (.int .i64 0) := Blk.get k1 rfl
      have k1_f1 : wc.frozen? ⟨c2.heap.size, 1, none⟩ = false := Blk.frozen k1 1
      have k1_z : c2.heap.size < wc.heap.size := Blk.lt k1
      have hsz := hB.size
      go_wp2_with fail
      go_call (specIntervalValid_any _ _ _) as e c4 ⟨rfl, hb⟩
      replace k0 : Blk c4 (c1.heap.size) 25 #[.int .i64 s, .int .i64 h] := Blk.pure (by repeat' (first | (with_reducible assumption) | (with_reducible exact Blk.new _ _ _) | (with_reducible exact Blk.new' (by simp)) | (with_reducible refine Blk.alloc ?_ _) | (with_reducible refine Blk.drew ?_) | (with_reducible refine Blk.drewN ?_ _) | (with_reducible refine Blk.ne ?_ ?_ _) | omega | (simp; omega))) hb
      replace k1 : Blk c4 (c2.heap.size) 25 #[.int .i64 0, .int .i64 0] := Blk.pure (by repeat' (first | (with_reducible assumption) | (with_reducible exact Blk.new _ _ _) | (with_reducible exact Blk.new' (by simp)) | (with_reducible refine Blk.alloc ?_ _) | (with_reducible refine Blk.drew ?_) | (with_reducible refine Blk.drewN ?_ _) | (with_reducible refine Blk.ne ?_ ?_ _) | omega | (simp; omega))) hb
      replace hB := below_pure (w := w) (by go_grown) hb
      clear hb; replace hsz := hB.size
      clear k0_c0 k0_f0 k0_c1 k0_f1 k0_z k1_c0 k1_f0 k1_c1 k1_f1 k1_z
      have k0_c0 : c4.cell? ⟨c1.heap.size, 0, none⟩ = some (.int .i64 s) := Blk.get k0 rfl
      have k0_f0 : c4.frozen? ⟨c1.heap.size, 0, none⟩ = false := Blk.frozen k0 0
      have k0_c1 : c4.cell? ⟨c1.heap.size, 1, none⟩ = some (.int .i64 h) := Blk.get k0 rfl
      have k0_f1 : c4.frozen? ⟨c1.heap.size, 1, none⟩ = false := Blk.frozen k0 1
      have k0_z : c1.heap.size < c4.heap.size := Blk.lt k0
      have k1_c0 : c4.cell? ⟨c2.heap.size, 0, none⟩ = some (.int .i64 0) := Blk.get k1 rfl
      have k1_f0 : c4.frozen? ⟨c2.heap.size, 0, none⟩ = false := Blk.frozen k1 0
      have k1_c1 : c4.cell? ⟨c2.heap.size, 1, none⟩ = some (.int .i64 0) := Blk.get k1 rfl
      have k1_f1 : c4.frozen? ⟨c2.heap.size, 1, none⟩ = false := Blk.frozen k1 1
      have k1_z : c2.heap.size < c4.heap.size := Blk.lt k1
      go_wp2_with fail
      go_call (alive_any _) as e c5 ⟨rfl, hb⟩
      replace k0 : Blk c5 (c1.heap.size) 25 #[.int .i64 s, .int .i64 h] := Blk.pure (by repeat' (first | (with_reducible assumption) | (with_reducible exact Blk.new _ _ _) | (with_reducible exact Blk.new' (by simp)) | (with_reducible refine Blk.alloc ?_ _) | (with_reducible refine Blk.drew ?_) | (with_reducible refine Blk.drewN ?_ _) | (with_reducible refine Blk.ne ?_ ?_ _) | omega | (simp; omega))) hb
      replace k1 : Blk c5 (c2.heap.size) 25 #[.int .i64 0, .int .i64 0] := Blk.pure (by repeat' (first | (with_reducible assumption) | (with_reducible exact Blk.new _ _ _) | (with_reducible exact Blk.new' (by simp)) | (with_reducible refine Blk.alloc ?_ _) | (with_reducible refine Blk.drew ?_) | (with_reducible refine Blk.drewN ?_ _) | (with_reducible refine Blk.ne ?_ ?_ _) | omega | (simp; omega))) hb
      replace hB := below_pure (w := w) (by go_grown) hb
      clear hb; replace hsz := hB.size
      clear k0_c0 k0_f0 k0_c1 k0_f1 k0_z k1_c0 k1_f0 k1_c1 k1_f1 k1_z
      have k0_c0 : c5.cell? ⟨c1.heap.size, 0, none⟩ = some (.int .i64 s) := Blk.get k0 rfl
      have k0_f0 : c5.frozen? ⟨c1.heap.size, 0, none⟩ = false := Blk.frozen k0 0
      have k0_c1 : c5.cell? ⟨c1.heap.size, 1, none⟩ = some (.int .i64 h) := Blk.get k0 rfl
      have k0_f1 : c5.frozen? ⟨c1.heap.size, 1, none⟩ = false := Blk.frozen k0 1
      have k0_z : c1.heap.size < c5.heap.size := Blk.lt k0
      have k1_c0 : c5.cell? ⟨c2.heap.size, 0, none⟩ = some (.int .i64 0) := Blk.get k1 rfl
      have k1_f0 : c5.frozen? ⟨c2.heap.size, 0, none⟩ = false := Blk.frozen k1 0
      have k1_c1 : c5.cell? ⟨c2.heap.size, 1, none⟩ = some (.int .i64 0) := Blk.get k1 rfl
      have k1_f1 : c5.frozen? ⟨c2.heap.size, 1, none⟩ = false := Blk.frozen k1 1
      have k1_z : c2.heap.size < c5.heap.size := Blk.lt k1
      go_wp2
      go_ret
      exact ⟨rfl, by go_grown⟩
  · have e1 := backS_t hi
    have e2 := backH_t hi
    obtain ⟨q0, q1, q2, q3, q4, q5⟩ := intB_t hi
    have HS := fun W => specIntervalBack_any s h W
    rw [e1, e2] at HS
    have HSp := Lib.hid HS
    clear HS
    go_wp2_with fail
    go_call (intervalBack_any _ _ _) as e c2 ⟨rfl, hb⟩
    have k0 : Blk c2 (c1.heap.size) 25 #[.int .i64 s, .int .i64 h] := Blk.pure (by repeat' (first | (with_reducible assumption) | (with_reducible exact Blk.new _ _ _) | (with_reducible exact Blk.new' (by simp)) | (with_reducible refine Blk.alloc ?_ _) | (with_reducible refine Blk.drew ?_) | (with_reducible refine Blk.drewN ?_ _) | (with_reducible refine Blk.ne ?_ ?_ _) | omega | (simp; omega))) hb
    replace hB := below_pure (w := w) (by go_grown) hb
    clear hb; replace hsz := hB.size
    have k0_c0 : c2.cell? ⟨c1.heap.size, 0, none⟩ = some (.int .i64 s) := Blk.get k0 rfl
    have k0_f0 : c2.frozen? ⟨c1.heap.size, 0, none⟩ = false := Blk.frozen k0 0
    have k0_c1 : c2.cell? ⟨c1.heap.size, 1, none⟩ = some (.int .i64 h) := Blk.get k0 rfl
    have k0_f1 : c2.frozen? ⟨c1.heap.size, 1, none⟩ = false := Blk.frozen k0 1
    have k0_z : c1.heap.size < c2.heap.size := Blk.lt k0
    go_upto_region 5 with fail
    have ordk0 := k0_z
    replace k0 : Blk (c2.alloc (Obj.cells #[.int .i64 (-s), .int .i64 (-h)] 25)) (c1.heap.size) 25 #[.int .i64 s, .int .i64 h] := Blk.alloc k0 _
    have k1 : Blk (c2.alloc (Obj.cells #[.int .i64 (-s), .int .i64 (-h)] 25)) (c2.heap.size) 25 #[.int .i64 (-s), .int .i64 (-h)] := Blk.new _ _ _
    replace hB : Below w.heap.size w (c2.alloc (Obj.cells #[.int .i64 (-s), .int .i64 (-h)] 25)) := by go_grown
    generalize (c2.alloc (Obj.cells #[.int .i64 (-s), .int .i64 (-h)] 25)) = cx3 at *
    clear k0_c0 k0_f0 k0_c1 k0_f1 k0_z
    have k0_c0 : cx3.cell? ⟨c1.heap.size, 0, none⟩ = some (.int .i64 s) := Blk.get k0 rfl
    have k0_f0 : cx3.frozen? ⟨c1.heap.size, 0, none⟩ = false := Blk.frozen k0 0
    have k0_c1 : cx3.cell? ⟨c1.heap.size, 1, none⟩ = some (.int .i64 h) := Blk.get k0 rfl
    have k0_f1 : cx3.frozen? ⟨c1.heap.size, 1, none⟩ = false := Blk.frozen k0 1
    have k0_z : c1.heap.size < cx3.heap.size := Blk.lt k0
    have k1_c0 : cx3.cell? ⟨c2.heap.size, 0, none⟩ = some (.int .i64 (-s)) := Blk.get k1 rfl
    have k1_f0 : cx3.frozen? ⟨c2.heap.size, 0, none⟩ = false := Blk.frozen k1 0
    have k1_c1 : cx3.cell? ⟨c2.heap.size, 1, none⟩ = some (.int .i64 (-h)) := Blk.get k1 rfl
    have k1_f1 : cx3.frozen? ⟨c2.heap.size, 1, none⟩ = false := Blk.frozen k1 1
    have k1_z : c2.heap.size < cx3.heap.size := Blk.lt k1
    go_upto_region 5 with fail
    go_cut [15] (fun v15 wc => Blk wc (c1.heap.size) 25 #[.int .i64 s, .int .i64 h] ∧ Blk wc (c2.heap.size) 25 #[.int .i64 (-s), .int .i64 (-h)] ∧ Below w.heap.size w wc ∧ v15 = .bool false)
    case first =>
      have HSd := Lib.hid (show Blk cx3.drew (c1.heap.size) 25 #[.int .i64 s, .int .i64 h] ∧ cx3.drew.cell? ⟨c1.heap.size, 0, none⟩ = some (.int .i64 s) ∧ cx3.drew.cell? ⟨c1.heap.size, 1, none⟩ = some (.int .i64 h) ∧ Blk cx3.drew (c2.heap.size) 25 #[.int .i64 (-s), .int .i64 (-h)] ∧ cx3.drew.cell? ⟨c2.heap.size, 0, none⟩ = some (.int .i64 (-s)) ∧ cx3.drew.cell? ⟨c2.heap.size, 1, none⟩ = some (.int .i64 (-h)) ∧ Below w.heap.size w cx3.drew from ⟨k0, k0_c0, k0_c1, k1, k1_c0, k1_c1, hB.drew⟩)
      have hz : c2.heap.size < cx3.heap.size := k1_z
      clear hB k0_c0 k0_f0 k0_c1 k0_f1 k0_z k1_c0 k1_f0 k1_c1 k1_f1 k1_z k0 k1
      go_region_held3 (fun w' => Blk w' (c1.heap.size) 25 #[.int .i64 s, .int .i64 h] ∧ w'.cell? ⟨c1.heap.size, 0, none⟩ = some (.int .i64 s) ∧ w'.cell? ⟨c1.heap.size, 1, none⟩ = some (.int .i64 h) ∧ Blk w' (c2.heap.size) 25 #[.int .i64 (-s), .int .i64 (-h)] ∧ w'.cell? ⟨c2.heap.size, 0, none⟩ = some (.int .i64 (-s)) ∧ w'.cell? ⟨c2.heap.size, 1, none⟩ = some (.int .i64 (-h)) ∧ Below w.heap.size w w')
        (first | exact HSd.out | (go_split_ands; go_split_ands; (repeat' apply And.intro) <;> first | (with_reducible assumption) | (with_reducible exact Blk.pure (by assumption) hbc) | (with_reducible exact Blk.get (Blk.pure (by assumption) hbc) rfl) | (with_reducible exact below_pure (by assumption) hbc) | (with_reducible exact Blk.alloc (by assumption) _) | (with_reducible exact Blk.get (Blk.alloc (by assumption) _) rfl) | (with_reducible exact Below.alloc (by assumption) (Below.size (by assumption)) _) | (with_reducible exact Blk.drew (Blk.alloc (Blk.undrew (by assumption)) _)) | (with_reducible exact Blk.get (Blk.drew (Blk.alloc (Blk.undrew (by assumption)) _)) rfl) | (with_reducible exact Below.drew (Below.alloc (below_undrew (by assumption)) (Below.size (below_undrew (by assumption))) _)) | (with_reducible exact Blk.swap (by assumption) (by omega)) | (with_reducible exact Blk.get (Blk.swap (by assumption) (by omega)) rfl) | (with_reducible exact below_swap (by assumption) (by omega))))
        (first | ((go_at_call 20; refine (HSp.out _).mono ?_; rintro e w2 ⟨rfl, hbc⟩); have hz : c2.heap.size < w2.heap.size := (by (go_split_ands; refine Nat.lt_of_lt_of_le ?_ hbc.size; exact Blk.lt (by assumption)))))
      all_goals
        clear HSd
        go_wp2_with fail
        go_meet
        go_split_ands
        refine ⟨by assumption, by assumption, by assumption, rfl⟩
    case rest =>
      clear hB k0_c0 k0_f0 k0_c1 k0_f1 k0_z k1_c0 k1_f0 k1_c1 k1_f1 k1_z k0 k1
      obtain ⟨k0, k1, hB, rfl⟩ := hcut
      have k0_c0 : wc.cell? ⟨c1.heap.size, 0, none⟩ = some (.int .i64 s) := Blk.get k0 rfl
      have k0_f0 : wc.frozen? ⟨c1.heap.size, 0, none⟩ = false := Blk.frozen k0 0
      have k0_c1 : wc.cell? ⟨c1.heap.size, 1, none⟩ = some (.int .i64 h) := Blk.get k0 rfl
      have k0_f1 : wc.frozen? ⟨c1.heap.size, 1, none⟩ = false := Blk.frozen k0 1
      have k0_z : c1.heap.size < wc.heap.size := Blk.lt k0
      have k1_c0 : wc.cell? ⟨c2.heap.size, 0, none⟩ = some (.int .i64 (-s)) := Blk.get k1 rfl
      have k1_f0 : wc.frozen? ⟨c2.heap.size, 0, none⟩ = false := Blk.frozen k1 0
      have k1_c1 : wc.cell? ⟨c2.heap.size, 1, none⟩ = some (.int .i64 (-h)) := Blk.get k1 rfl
      have k1_f1 : wc.frozen? ⟨c2.heap.size, 1, none⟩ = false := Blk.frozen k1 1
      have k1_z : c2.heap.size < wc.heap.size := Blk.lt k1
      have hsz := hB.size
      go_wp2_with fail
      go_call (specIntervalValid_any _ _ _) as e c4 ⟨rfl, hb⟩
      replace k0 : Blk c4 (c1.heap.size) 25 #[.int .i64 s, .int .i64 h] := Blk.pure (by repeat' (first | (with_reducible assumption) | (with_reducible exact Blk.new _ _ _) | (with_reducible exact Blk.new' (by simp)) | (with_reducible refine Blk.alloc ?_ _) | (with_reducible refine Blk.drew ?_) | (with_reducible refine Blk.drewN ?_ _) | (with_reducible refine Blk.ne ?_ ?_ _) | omega | (simp; omega))) hb
      replace k1 : Blk c4 (c2.heap.size) 25 #[.int .i64 (-s), .int .i64 (-h)] := Blk.pure (by repeat' (first | (with_reducible assumption) | (with_reducible exact Blk.new _ _ _) | (with_reducible exact Blk.new' (by simp)) | (with_reducible refine Blk.alloc ?_ _) | (with_reducible refine Blk.drew ?_) | (with_reducible refine Blk.drewN ?_ _) | (with_reducible refine Blk.ne ?_ ?_ _) | omega | (simp; omega))) hb
      replace hB := below_pure (w := w) (by go_grown) hb
      clear hb; replace hsz := hB.size
      clear k0_c0 k0_f0 k0_c1 k0_f1 k0_z k1_c0 k1_f0 k1_c1 k1_f1 k1_z
      have k0_c0 : c4.cell? ⟨c1.heap.size, 0, none⟩ = some (.int .i64 s) := Blk.get k0 rfl
      have k0_f0 : c4.frozen? ⟨c1.heap.size, 0, none⟩ = false := Blk.frozen k0 0
      have k0_c1 : c4.cell? ⟨c1.heap.size, 1, none⟩ = some (.int .i64 h) := Blk.get k0 rfl
      have k0_f1 : c4.frozen? ⟨c1.heap.size, 1, none⟩ = false := Blk.frozen k0 1
      have k0_z : c1.heap.size < c4.heap.size := Blk.lt k0
      have k1_c0 : c4.cell? ⟨c2.heap.size, 0, none⟩ = some (.int .i64 (-s)) := Blk.get k1 rfl
      have k1_f0 : c4.frozen? ⟨c2.heap.size, 0, none⟩ = false := Blk.frozen k1 0
      have k1_c1 : c4.cell? ⟨c2.heap.size, 1, none⟩ = some (.int .i64 (-h)) := Blk.get k1 rfl
      have k1_f1 : c4.frozen? ⟨c2.heap.size, 1, none⟩ = false := Blk.frozen k1 1
      have k1_z : c2.heap.size < c4.heap.size := Blk.lt k1
      have wn : IntKind.i64.wrap (-s) = -s := IntWalk.i64_in _ (by omega)
      go_wp2_with fail
      have HSd := Lib.hid (show Blk c4.drew (c1.heap.size) 25 #[.int .i64 s, .int .i64 h] ∧ c4.drew.cell? ⟨c1.heap.size, 0, none⟩ = some (.int .i64 s) ∧ c4.drew.cell? ⟨c1.heap.size, 1, none⟩ = some (.int .i64 h) ∧ Blk c4.drew (c2.heap.size) 25 #[.int .i64 (-s), .int .i64 (-h)] ∧ c4.drew.cell? ⟨c2.heap.size, 0, none⟩ = some (.int .i64 (-s)) ∧ c4.drew.cell? ⟨c2.heap.size, 1, none⟩ = some (.int .i64 (-h)) ∧ Below w.heap.size w c4.drew from ⟨k0, k0_c0, k0_c1, k1, k1_c0, k1_c1, hB.drew⟩)
      have hz : c2.heap.size < c4.heap.size := k1_z
      clear hB k0_c0 k0_f0 k0_c1 k0_f1 k0_z k1_c0 k1_f0 k1_c1 k1_f1 k1_z k0 k1
      go_region_held3 (fun w' => Blk w' (c1.heap.size) 25 #[.int .i64 s, .int .i64 h] ∧ w'.cell? ⟨c1.heap.size, 0, none⟩ = some (.int .i64 s) ∧ w'.cell? ⟨c1.heap.size, 1, none⟩ = some (.int .i64 h) ∧ Blk w' (c2.heap.size) 25 #[.int .i64 (-s), .int .i64 (-h)] ∧ w'.cell? ⟨c2.heap.size, 0, none⟩ = some (.int .i64 (-s)) ∧ w'.cell? ⟨c2.heap.size, 1, none⟩ = some (.int .i64 (-h)) ∧ Below w.heap.size w w')
        (first | exact HSd.out | (go_split_ands; go_split_ands; (repeat' apply And.intro) <;> first | (with_reducible assumption) | (with_reducible exact Blk.pure (by assumption) hbc) | (with_reducible exact Blk.get (Blk.pure (by assumption) hbc) rfl) | (with_reducible exact below_pure (by assumption) hbc) | (with_reducible exact Blk.alloc (by assumption) _) | (with_reducible exact Blk.get (Blk.alloc (by assumption) _) rfl) | (with_reducible exact Below.alloc (by assumption) (Below.size (by assumption)) _) | (with_reducible exact Blk.drew (Blk.alloc (Blk.undrew (by assumption)) _)) | (with_reducible exact Blk.get (Blk.drew (Blk.alloc (Blk.undrew (by assumption)) _)) rfl) | (with_reducible exact Below.drew (Below.alloc (below_undrew (by assumption)) (Below.size (below_undrew (by assumption))) _)) | (with_reducible exact Blk.swap (by assumption) (by omega)) | (with_reducible exact Blk.get (Blk.swap (by assumption) (by omega)) rfl) | (with_reducible exact below_swap (by assumption) (by omega))))
        (first | ((go_at_call 21; refine (backBackC hi _).mono ?_; rintro e w2 ⟨rfl, hbc⟩); have hz : c2.heap.size < w2.heap.size := (by (go_split_ands; refine Nat.lt_of_lt_of_le ?_ hbc.size; exact Blk.lt (by assumption)))) | ((go_at_call 17; refine (validC hi _).mono ?_; rintro e w2 ⟨rfl, hbc⟩); have hz : c2.heap.size < w2.heap.size := (by (go_split_ands; refine Nat.lt_of_lt_of_le ?_ hbc.size; exact Blk.lt (by assumption)))))
      all_goals
        clear HSd
        go_split_ands
        go_wp2
        go_ret
        exact ⟨rfl, by assumption⟩
end Go.Proofs.Ytelmcidbengcdaa

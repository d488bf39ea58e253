/- The walk of the law FnReadPitch: it returns true, and nothing that was there turns. No condition. -/
import Derived.Test.YtgogpjlemaajeaaRu
import Derived.Test.YtgogpjlemaajeaaDz
import Derived.Test.YtgogpjlemaajeaaAl
namespace Go.Proofs.Ytgogpjlemaajeaa
open Go.RowKit

theorem S_of (x : ByteArray) : ∃ l, x = S l := ⟨x.data.toList, by
  apply ByteArray.ext
  simp [S]⟩
theorem getLast_snoc (l : List UInt8) (c : UInt8) : (l ++ [c]).getLastD 0 = c := by
  rw [List.getLastD_eq_getLast?]
  simp
/-- With a byte more a text is none. -/
theorem rB_more (l : List UInt8) (h : rB l = true) : rB (l ++ [52]) = false := by
  have hz : 2 ≤ l.length ∧ l.length ≤ 4 := by
    by_cases hz : 2 ≤ l.length ∧ l.length ≤ 4
    · exact hz
    · rw [rB_len l hz] at h
      cases h
  rw [rB_at l hz _ _ _ rfl rfl rfl] at h
  obtain ⟨hp, e⟩ := txtL_yes (by simpa using h) (fun e => by rw [e] at hz; exact absurd hz.1 (by decide))
  clear h
  generalize rS l = s at *
  generalize rA l = a at *
  generalize rO l = o at *
  subst e
  obtain ⟨h0, h6, ha, ha', ho, ho'⟩ := pitchB_t hp
  have e1 := idx_ltr s h0 h6
  by_cases hz2 : 2 ≤ (txt s a o ++ [52]).length ∧ (txt s a o ++ [52]).length ≤ 4
  · have eo : rO (txt s a o ++ [52]) = 4 := by
      unfold rO
      rw [getLast_snoc]
      rfl
    have key : ∀ a' : Int, rS (txt s a o ++ [52]) = s → rA (txt s a o ++ [52]) = a → rB (txt s a o ++ [52]) = false := fun _ es ea => by
      rw [rB_at _ hz2 s a 4 es ea eo]
      have hl : (txtL s a 4).length ≠ (txt s a o ++ [52]).length := by
        unfold txtL
        rw [if_pos (pitchB_mk ⟨h0, h6, ha, ha', by omega, by omega⟩)]
        unfold txt
        simp only [List.length_append, List.length_cons, List.length_nil, List.length_replicate]
        omega
      cases hc : (txtL s a 4 == txt s a o ++ [52])
      · rfl
      · exact absurd (congrArg List.length (by simpa using hc)) hl
    have ed : dgt o ≠ 35 ∧ dgt o ≠ 98 := by
      obtain rfl | rfl | rfl | rfl | rfl | rfl | rfl | rfl | rfl : o = 0 ∨ o = 1 ∨ o = 2 ∨ o = 3 ∨ o = 4 ∨ o = 5 ∨ o = 6 ∨ o = 7 ∨ o = 8 := by omega
      all_goals exact ⟨by decide, by decide⟩
    refine key 0 e1 ?_
    obtain rfl | rfl | rfl | rfl | rfl | rfl | rfl | rfl | rfl : o = 0 ∨ o = 1 ∨ o = 2 ∨ o = 3 ∨ o = 4 ∨ o = 5 ∨ o = 6 ∨ o = 7 ∨ o = 8 := by omega
    all_goals
      obtain rfl | rfl | rfl | rfl | rfl : a = -2 ∨ a = -1 ∨ a = 0 ∨ a = 1 ∨ a = 2 := by omega
      all_goals rfl
  · exact rB_len _ hz2

set_option maxHeartbeats 2000000 in
set_option maxRecDepth 100000 in
theorem fnReadPitch_walk (a : Option Addr) (len cap : Nat) (w : World) (hC : Code' w a len cap) :
    Calls Try.prog 13 #[.slice a len cap] w (Gives (.bool true) w) := by
  by_cases hlen : 1048576 < len
  · have hcap : len ≤ 9223372036854775807 := by have h1 := hC.2.1; have h2 := hC.2.2; unfold maxLen at h2; omega
    go_enter Try.func13, Try.ntmps13
    go_wp2
    go_ret
    exact ⟨rfl, by go_grown⟩
  have hlen' : len ≤ 1048576 := by omega
  have HC := Lib.hid hC
  clear hC
  go_enter Try.func13, Try.ntmps13
  go_wp2_with fail
  refine (drawReadPitch_any _ _ _ _ HC.out hlen').mono ?_
  rintro e c1 ⟨y, rfl, hy, hb⟩
  have hB : Below w.heap.size w c1 := by have h := below_pure (w := w) (by go_grown) hb; exact h
  have hsz := hB.size
  clear hb HC
  obtain ⟨l, rfl⟩ := S_of y
  have hm : (S l).size ≤ maxLen := by unfold maxLen; omega
  have HT := fun W => readPitch_any l hm W
  have HS := fun W => specReadPitch_any l hm W
  cases hv : rB l
  · rw [rV_no l hv] at HT HS
    generalize S l = y at *
    have HTh := Lib.hid HT
    have HSh := Lib.hid HS
    clear HT HS hm hv
    go_wp2_with fail
    go_call (HTh.out _) as e c2 ⟨rfl, hb⟩
    replace hB := below_pure (w := w) (by go_grown) hb
    clear hb; replace hsz := hB.size
    go_wp2_with fail
    go_call (HSh.out _) as e c3 ⟨rfl, hb⟩
    have k0 : Blk c3 (c2.heap.size) 25 #[.int .i64 0, .int .i64 0, .int .i64 0] := Blk.pure (by repeat' (first | (with_reducible assumption) | (with_reducible exact Blk.new _ _ _) | (with_reducible exact Blk.new' (by simp)) | (with_reducible refine Blk.alloc ?_ _) | (with_reducible refine Blk.drew ?_) | (with_reducible refine Blk.drewN ?_ _) | (with_reducible refine Blk.ne ?_ ?_ _) | omega | (simp; omega))) hb
    replace hB := below_pure (w := w) (by go_grown) hb
    clear hb; replace hsz := hB.size
    have k0_c0 : c3.cell? ⟨c2.heap.size, 0, none⟩ = some (.int .i64 0) := Blk.get k0 rfl
    have k0_f0 : c3.frozen? ⟨c2.heap.size, 0, none⟩ = false := Blk.frozen k0 0
    have k0_c1 : c3.cell? ⟨c2.heap.size, 1, none⟩ = some (.int .i64 0) := Blk.get k0 rfl
    have k0_f1 : c3.frozen? ⟨c2.heap.size, 1, none⟩ = false := Blk.frozen k0 1
    have k0_c2 : c3.cell? ⟨c2.heap.size, 2, none⟩ = some (.int .i64 0) := Blk.get k0 rfl
    have k0_f2 : c3.frozen? ⟨c2.heap.size, 2, none⟩ = false := Blk.frozen k0 2
    have k0_z : c2.heap.size < c3.heap.size := Blk.lt k0
    go_wp2_with fail
    go_call (alive_any _) as e c4 ⟨rfl, hb⟩
    replace k0 : Blk c4 (c2.heap.size) 25 #[.int .i64 0, .int .i64 0, .int .i64 0] := Blk.pure (by repeat' (first | (with_reducible assumption) | (with_reducible exact Blk.new _ _ _) | (with_reducible exact Blk.new' (by simp)) | (with_reducible refine Blk.alloc ?_ _) | (with_reducible refine Blk.drew ?_) | (with_reducible refine Blk.drewN ?_ _) | (with_reducible refine Blk.ne ?_ ?_ _) | omega | (simp; omega))) hb
    have k1 : Blk c4 (c3.heap.size) 25 #[.int .i64 0, .int .i64 0, .int .i64 0] := Blk.pure (by repeat' (first | (with_reducible assumption) | (with_reducible exact Blk.new _ _ _) | (with_reducible exact Blk.new' (by simp)) | (with_reducible refine Blk.alloc ?_ _) | (with_reducible refine Blk.drew ?_) | (with_reducible refine Blk.drewN ?_ _) | (with_reducible refine Blk.ne ?_ ?_ _) | omega | (simp; omega))) hb
    replace hB := below_pure (w := w) (by go_grown) hb
    clear hb; replace hsz := hB.size
    clear k0_c0 k0_f0 k0_c1 k0_f1 k0_c2 k0_f2 k0_z
    have k0_c0 : c4.cell? ⟨c2.heap.size, 0, none⟩ = some (.int .i64 0) := Blk.get k0 rfl
    have k0_f0 : c4.frozen? ⟨c2.heap.size, 0, none⟩ = false := Blk.frozen k0 0
    have k0_c1 : c4.cell? ⟨c2.heap.size, 1, none⟩ = some (.int .i64 0) := Blk.get k0 rfl
    have k0_f1 : c4.frozen? ⟨c2.heap.size, 1, none⟩ = false := Blk.frozen k0 1
    have k0_c2 : c4.cell? ⟨c2.heap.size, 2, none⟩ = some (.int .i64 0) := Blk.get k0 rfl
    have k0_f2 : c4.frozen? ⟨c2.heap.size, 2, none⟩ = false := Blk.frozen k0 2
    have k0_z : c2.heap.size < c4.heap.size := Blk.lt k0
    have k1_c0 : c4.cell? ⟨c3.heap.size, 0, none⟩ = some (.int .i64 0) := Blk.get k1 rfl
    have k1_f0 : c4.frozen? ⟨c3.heap.size, 0, none⟩ = false := Blk.frozen k1 0
    have k1_c1 : c4.cell? ⟨c3.heap.size, 1, none⟩ = some (.int .i64 0) := Blk.get k1 rfl
    have k1_f1 : c4.frozen? ⟨c3.heap.size, 1, none⟩ = false := Blk.frozen k1 1
    have k1_c2 : c4.cell? ⟨c3.heap.size, 2, none⟩ = some (.int .i64 0) := Blk.get k1 rfl
    have k1_f2 : c4.frozen? ⟨c3.heap.size, 2, none⟩ = false := Blk.frozen k1 2
    have k1_z : c3.heap.size < c4.heap.size := Blk.lt k1
    go_wp2
    go_ret
    exact ⟨rfl, by go_grown⟩
  · rw [rV_yes l hv] at HT HS
    have hm2 : (S (l ++ [52])).size ≤ maxLen := by rw [S_size, List.length_append, ← S_size]; unfold maxLen; show _ + 1 ≤ _; omega
    have HM := fun W => readPitch_any (l ++ [52]) hm2 W
    rw [rV_no _ (rB_more l hv), ← S_snoc] at HM
    have hz : 2 ≤ l.length ∧ l.length ≤ 4 := by
      by_cases hz : 2 ≤ l.length ∧ l.length ≤ 4
      · exact hz
      · rw [rB_len l hz] at hv
        cases hv
    have HP := fun W => pitchText_any (rS l) (rA l) (rO l) W
    rw [show txtL (rS l) (rA l) (rO l) = l from by have h := hv; rw [rB_at l hz _ _ _ rfl rfl rfl] at h; simpa using h] at HP
    generalize rS l = p at *
    generalize rA l = q at *
    generalize rO l = r at *
    clear hv hz hm hm2
    generalize S l = y at *
    have HTh := Lib.hid HT
    have HSh := Lib.hid HS
    have HMh := Lib.hid HM
    have HPh := Lib.hid HP
    clear HT HS HM HP
    have z1 : ¬ 9223372036854775807 < y.size + 1 := by omega
    go_wp2_with fail
    go_call (HTh.out _) as e c2 ⟨rfl, hb⟩
    replace hB := below_pure (w := w) (by go_grown) hb
    clear hb; replace hsz := hB.size
    go_wp2_with fail
    go_call (HSh.out _) as e c3 ⟨rfl, hb⟩
    have k0 : Blk c3 (c2.heap.size) 25 #[.int .i64 p, .int .i64 q, .int .i64 r] := Blk.pure (by repeat' (first | (with_reducible assumption) | (with_reducible exact Blk.new _ _ _) | (with_reducible exact Blk.new' (by simp)) | (with_reducible refine Blk.alloc ?_ _) | (with_reducible refine Blk.drew ?_) | (with_reducible refine Blk.drewN ?_ _) | (with_reducible refine Blk.ne ?_ ?_ _) | omega | (simp; omega))) hb
    replace hB := below_pure (w := w) (by go_grown) hb
    clear hb; replace hsz := hB.size
    have k0_c0 : c3.cell? ⟨c2.heap.size, 0, none⟩ = some (.int .i64 p) := Blk.get k0 rfl
    have k0_f0 : c3.frozen? ⟨c2.heap.size, 0, none⟩ = false := Blk.frozen k0 0
    have k0_c1 : c3.cell? ⟨c2.heap.size, 1, none⟩ = some (.int .i64 q) := Blk.get k0 rfl
    have k0_f1 : c3.frozen? ⟨c2.heap.size, 1, none⟩ = false := Blk.frozen k0 1
    have k0_c2 : c3.cell? ⟨c2.heap.size, 2, none⟩ = some (.int .i64 r) := Blk.get k0 rfl
    have k0_f2 : c3.frozen? ⟨c2.heap.size, 2, none⟩ = false := Blk.frozen k0 2
    have k0_z : c2.heap.size < c3.heap.size := Blk.lt k0
    go_wp2_with fail
    go_call (HMh.out _) as e c4 ⟨rfl, hb⟩
    replace k0 : Blk c4 (c2.heap.size) 25 #[.int .i64 p, .int .i64 q, .int .i64 r] := Blk.pure (by repeat' (first | (with_reducible assumption) | (with_reducible exact Blk.new _ _ _) | (with_reducible exact Blk.new' (by simp)) | (with_reducible refine Blk.alloc ?_ _) | (with_reducible refine Blk.drew ?_) | (with_reducible refine Blk.drewN ?_ _) | (with_reducible refine Blk.ne ?_ ?_ _) | omega | (simp; omega))) hb
    have k1 : Blk c4 (c3.heap.size) 25 #[.int .i64 p, .int .i64 q, .int .i64 r] := Blk.pure (by repeat' (first | (with_reducible assumption) | (with_reducible exact Blk.new _ _ _) | (with_reducible exact Blk.new' (by simp)) | (with_reducible refine Blk.alloc ?_ _) | (with_reducible refine Blk.drew ?_) | (with_reducible refine Blk.drewN ?_ _) | (with_reducible refine Blk.ne ?_ ?_ _) | omega | (simp; omega))) hb
    replace hB := below_pure (w := w) (by go_grown) hb
    clear hb; replace hsz := hB.size
    clear k0_c0 k0_f0 k0_c1 k0_f1 k0_c2 k0_f2 k0_z
    have k0_c0 : c4.cell? ⟨c2.heap.size, 0, none⟩ = some (.int .i64 p) := Blk.get k0 rfl
    have k0_f0 : c4.frozen? ⟨c2.heap.size, 0, none⟩ = false := Blk.frozen k0 0
    have k0_c1 : c4.cell? ⟨c2.heap.size, 1, none⟩ = some (.int .i64 q) := Blk.get k0 rfl
    have k0_f1 : c4.frozen? ⟨c2.heap.size, 1, none⟩ = false := Blk.frozen k0 1
    have k0_c2 : c4.cell? ⟨c2.heap.size, 2, none⟩ = some (.int .i64 r) := Blk.get k0 rfl
    have k0_f2 : c4.frozen? ⟨c2.heap.size, 2, none⟩ = false := Blk.frozen k0 2
    have k0_z : c2.heap.size < c4.heap.size := Blk.lt k0
    have k1_c0 : c4.cell? ⟨c3.heap.size, 0, none⟩ = some (.int .i64 p) := Blk.get k1 rfl
    have k1_f0 : c4.frozen? ⟨c3.heap.size, 0, none⟩ = false := Blk.frozen k1 0
    have k1_c1 : c4.cell? ⟨c3.heap.size, 1, none⟩ = some (.int .i64 q) := Blk.get k1 rfl
    have k1_f1 : c4.frozen? ⟨c3.heap.size, 1, none⟩ = false := Blk.frozen k1 1
    have k1_c2 : c4.cell? ⟨c3.heap.size, 2, none⟩ = some (.int .i64 r) := Blk.get k1 rfl
    have k1_f2 : c4.frozen? ⟨c3.heap.size, 2, none⟩ = false := Blk.frozen k1 2
    have k1_z : c3.heap.size < c4.heap.size := Blk.lt k1
    go_wp2_with fail
    go_call (HPh.out _) as e c5 ⟨rfl, hb⟩
    replace k0 : Blk c5 (c2.heap.size) 25 #[.int .i64 p, .int .i64 q, .int .i64 r] := Blk.pure (by repeat' (first | (with_reducible assumption) | (with_reducible exact Blk.new _ _ _) | (with_reducible exact Blk.new' (by simp)) | (with_reducible refine Blk.alloc ?_ _) | (with_reducible refine Blk.drew ?_) | (with_reducible refine Blk.drewN ?_ _) | (with_reducible refine Blk.ne ?_ ?_ _) | omega | (simp; omega))) hb
    replace k1 : Blk c5 (c3.heap.size) 25 #[.int .i64 p, .int .i64 q, .int .i64 r] := Blk.pure (by repeat' (first | (with_reducible assumption) | (with_reducible exact Blk.new _ _ _) | (with_reducible exact Blk.new' (by simp)) | (with_reducible refine Blk.alloc ?_ _) | (with_reducible refine Blk.drew ?_) | (with_reducible refine Blk.drewN ?_ _) | (with_reducible refine Blk.ne ?_ ?_ _) | omega | (simp; omega))) hb
    have k2 : Blk c5 (c4.heap.size) 25 #[.int .i64 0, .int .i64 0, .int .i64 0] := Blk.pure (by repeat' (first | (with_reducible assumption) | (with_reducible exact Blk.new _ _ _) | (with_reducible exact Blk.new' (by simp)) | (with_reducible refine Blk.alloc ?_ _) | (with_reducible refine Blk.drew ?_) | (with_reducible refine Blk.drewN ?_ _) | (with_reducible refine Blk.ne ?_ ?_ _) | omega | (simp; omega))) hb
    replace hB := below_pure (w := w) (by go_grown) hb
    clear hb; replace hsz := hB.size
    clear k0_c0 k0_f0 k0_c1 k0_f1 k0_c2 k0_f2 k0_z k1_c0 k1_f0 k1_c1 k1_f1 k1_c2 k1_f2 k1_z
    have k0_c0 : c5.cell? ⟨c2.heap.size, 0, none⟩ = some (.int .i64 p) := Blk.get k0 rfl
    have k0_f0 : c5.frozen? ⟨c2.heap.size, 0, none⟩ = false := Blk.frozen k0 0
    have k0_c1 : c5.cell? ⟨c2.heap.size, 1, none⟩ = some (.int .i64 q) := Blk.get k0 rfl
    have k0_f1 : c5.frozen? ⟨c2.heap.size, 1, none⟩ = false := Blk.frozen k0 1
    have k0_c2 : c5.cell? ⟨c2.heap.size, 2, none⟩ = some (.int .i64 r) := Blk.get k0 rfl
    have k0_f2 : c5.frozen? ⟨c2.heap.size, 2, none⟩ = false := Blk.frozen k0 2
    have k0_z : c2.heap.size < c5.heap.size := Blk.lt k0
    have k1_c0 : c5.cell? ⟨c3.heap.size, 0, none⟩ = some (.int .i64 p) := Blk.get k1 rfl
    have k1_f0 : c5.frozen? ⟨c3.heap.size, 0, none⟩ = false := Blk.frozen k1 0
    have k1_c1 : c5.cell? ⟨c3.heap.size, 1, none⟩ = some (.int .i64 q) := Blk.get k1 rfl
    have k1_f1 : c5.frozen? ⟨c3.heap.size, 1, none⟩ = false := Blk.frozen k1 1
    have k1_c2 : c5.cell? ⟨c3.heap.size, 2, none⟩ = some (.int .i64 r) := Blk.get k1 rfl
    have k1_f2 : c5.frozen? ⟨c3.heap.size, 2, none⟩ = false := Blk.frozen k1 2
    have k1_z : c3.heap.size < c5.heap.size := Blk.lt k1
    have k2_c0 : c5.cell? ⟨c4.heap.size, 0, none⟩ = some (.int .i64 0) := Blk.get k2 rfl
    have k2_f0 : c5.frozen? ⟨c4.heap.size, 0, none⟩ = false := Blk.frozen k2 0
    have k2_c1 : c5.cell? ⟨c4.heap.size, 1, none⟩ = some (.int .i64 0) := Blk.get k2 rfl
    have k2_f1 : c5.frozen? ⟨c4.heap.size, 1, none⟩ = false := Blk.frozen k2 1
    have k2_c2 : c5.cell? ⟨c4.heap.size, 2, none⟩ = some (.int .i64 0) := Blk.get k2 rfl
    have k2_f2 : c5.frozen? ⟨c4.heap.size, 2, none⟩ = false := Blk.frozen k2 2
    have k2_z : c4.heap.size < c5.heap.size := Blk.lt k2
    go_wp2
    go_ret
    exact ⟨rfl, by go_grown⟩
end Go.Proofs.Ytgogpjlemaajeaa

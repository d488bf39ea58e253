/- The walk of the laws' toNoteS: a row of the call's own that holds the same notes; and of szNoteS. Conditions: as stated. -/
import Derived.Test.YtmkkhbplfedpoaaNo
namespace Go.Proofs.Ytmkkhbplfedpoaa
open Go.RowKit

theorem infoN : (Try.prog.info? 29).map (fun i => (i.zero, i.size, i.bytes)) = some (some (.agg #[.bool false, .int .i64 0, .int .i64 0, .int .i64 0, .int .i64 0, .bool false]), 6, 48) := by kernel_rfl
set_option maxHeartbeats 400000 in
theorem szNoteS_any (a : Option Addr) (n cap : Nat) (left : Int) (w : World) (h0 : 0 ≤ left) (h1 : left ≤ 1048576) (hn : n ≤ 9223372036854775807) :
    Calls Try.prog 20 #[.slice a n cap, .int .i64 left] w fun e w' => e = .returned (.int .i64 (if (n : Int) ≤ left then left - n else -1)) ∧ w = w' := by
  by_cases h : (n : Int) ≤ left
  · rw [if_pos h]
    go_enter Try.func20, Try.ntmps20
    go_wp2
    go_ret
    exact ⟨rfl, rfl⟩
  · rw [if_neg h]
    go_enter Try.func20, Try.ntmps20
    go_wp2
    go_ret
    exact ⟨rfl, rfl⟩

set_option maxHeartbeats 2000000 in
theorem toNoteS_any (a : Option Addr) (n cap : Nat) (xs : List (Bool × Int × Int × Int × Int × Bool)) (w : World) (hx : xs.length = n) (h : Voice w a xs) (hn : n ≤ 10000000) :
    Calls Try.prog 22 #[.slice a n cap] w fun e w' => ∃ b c, e = .returned (.slice b n c) ∧ Below w.heap.size w w' ∧ Owns w' w.heap.size b (n * 6) (nc xs) ∧ n ≤ c ∧ c ≤ maxLen := by
  unfold Voice at h
  rw [hx] at h
  have HX := Lib.hid hx
  have HS := Lib.hid h
  clear h hx
  obtain ⟨i0, hi, hz0, hz1, hz2⟩ := info_parts infoN
  have hmk := fun W : World => run_make (P := Try.prog) W 35 29 i0 _ Try.underlying35 hi hz0 .i64 .i64 n n (by omega) (by omega) (by rw [hz2]; omega) (by omega)
  rw [hz1] at hmk
  simp only [Int.toNat_natCast] at hmk
  go_enter Try.func22, Try.ntmps22
  go_wp2_with fail
  have F0 := FillC.made w (madeCells #[.bool false, .int .i64 0, .int .i64 0, .int .i64 0, .int .i64 0, .bool false] (n * 6)) 29 (size_madeCells _ _) (nc xs)
  have hB : Below w.heap.size w (w.alloc (.cells (madeCells #[.bool false, .int .i64 0, .int .i64 0, .int .i64 0, .int .i64 0, .bool false] (n * 6)) 29)) := by go_grown
  have hg : w.heap.size ≤ w.heap.size := Nat.le_refl _
  clear hmk hi hz0 hz1 hz2
  go_loopw [4] (fun i wr => ∃ k : Nat, k ≤ n ∧ i = .int .i64 k ∧ FillC wr w.heap.size (n * 6) (k * 6) (nc xs) ∧ Below w.heap.size w wr) (fun i _ => n - (intOf i).toNat)
  case atStart => exact ⟨0, Nat.zero_le _, rfl, by rw [Nat.zero_mul]; exact F0, hB⟩
  case round =>
    clear F0 hB
    obtain ⟨k, hk, rfl, FC, hB⟩ := hrel
    have hsz := hB.size
    by_cases hlt : k < n
    · obtain ⟨⟨r, s, x, o, t, d⟩, hxk⟩ := nth (xs := xs) (k := k) (by have := HX.out; omega)
      obtain ⟨g, off, rfl, hc⟩ := (HS.out.pure hB) (by omega)
      obtain ⟨c0, c1, c2, c3, c4, c5⟩ := at6 hc hlt hxk
      clear hc
      go_wp2_with fail
      go_call (toNote_any _ _ _ _ _ _ _) as e w2 ⟨rfl, hb⟩
      replace FC := FC.pure hb
      replace hB := below_pure hB hb
      clear hb c0 c1 c2 c3 c4 c5 hsz
      have HE := Lib.hid (nc_at hxk)
      clear hxk
      obtain ⟨⟨v0, c0, -⟩, f0⟩ := FC (k * 6) (by omega)
      obtain ⟨⟨v1, c1, -⟩, f1⟩ := FC (k * 6 + 1) (by omega)
      obtain ⟨⟨v2, c2, -⟩, f2⟩ := FC (k * 6 + 2) (by omega)
      obtain ⟨⟨v3, c3, -⟩, f3⟩ := FC (k * 6 + 3) (by omega)
      obtain ⟨⟨v4, c4, -⟩, f4⟩ := FC (k * 6 + 4) (by omega)
      obtain ⟨⟨v5, c5, -⟩, f5⟩ := FC (k * 6 + 5) (by omega)
      have F6 := FC.step.step.step.step.step.step
      rw [HE.out.1, HE.out.2.1, HE.out.2.2.1, HE.out.2.2.2.1, HE.out.2.2.2.2.1, HE.out.2.2.2.2.2] at F6
      have HF := Lib.hid F6
      have hB6 := Lib.hid (((((((hB.setCell (p := ⟨w.heap.size, k * 6, none⟩) (Nat.le_refl _) (.bool r)).setCell (p := ⟨w.heap.size, k * 6 + 1, none⟩) (Nat.le_refl _) (.int .i64 s)).setCell (p := ⟨w.heap.size, k * 6 + 2, none⟩) (Nat.le_refl _) (.int .i64 x)).setCell (p := ⟨w.heap.size, k * 6 + 3, none⟩) (Nat.le_refl _) (.int .i64 o)).setCell (p := ⟨w.heap.size, k * 6 + 4, none⟩) (Nat.le_refl _) (.int .i64 t)).setCell (p := ⟨w.heap.size, k * 6 + 5, none⟩) (Nat.le_refl _) (.bool d)))
      have zl := cell_lt c0
      clear FC hB F6
      go_wp2_with fail
      go_roundw
      case rel => exact ⟨k + 1, by omega, by go_num, by rw [show (k + 1) * 6 = k * 6 + 6 by omega]; exact HF.out, hB6.out⟩
      case measure => simp [intOf]; omega
    · obtain rfl : k = n := by omega
      go_wp2
      go_ret
      exact ⟨_, _, rfl, hB, FC.done (Nat.le_refl _), Nat.le_refl _, by unfold maxLen; omega⟩

end Go.Proofs.Ytmkkhbplfedpoaa
